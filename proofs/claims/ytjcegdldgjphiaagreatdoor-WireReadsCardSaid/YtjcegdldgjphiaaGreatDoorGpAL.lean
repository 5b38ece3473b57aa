/-
  Merged: NumDec.
-/
import Derived.Test.YtjcegdldgjphiaaGreatDoorGpAH
import Derived.Lib.ItoaNum
import Derived.Lib.ParseIntB
set_option linter.unusedSimpArgs false
set_option linter.unusedVariables false
namespace Go.Proofs.YtjcegdldgjphiaaGreatDoor
open Go.RowKit
def db (d:Nat):UInt8:=UInt8.ofNat (48+d)
theorem zgy {d:Nat} (h:d<10):(db d).toNat=48+d:=by
 unfold db;rw [UInt8.toNat_ofNat'];omega
def dd (v:Nat):List UInt8:=if v=0 then [] else dd (v / 10)++[db (v%10)]
termination_by v
decreasing_by omega
theorem zbl:dd 0=[]:=by rw [dd];rfl
theorem zd3 {v:Nat} (h:v≠0):dd v=dd (v / 10)++[db (v%10)]:=by rw [dd,if_neg h]
theorem zb5:∀v:Nat,v≠0→Lib.decDigits v=dd v:=by
 intro v
 induction v using Nat.strongRecOn with
 | _ v ih =>
  intro h
  rw [Lib.decDigits,zd3 h]
  by_cases h2:v<10
  ·rw [dif_pos h2,show v / 10=0 by omega,zbl,show v%10=v by omega];rfl
  ·rw [dif_neg h2,ih (v / 10) (by omega) (by omega)];rfl
theorem zbc:Lib.decDigits 0=[48]:=by rw [Lib.decDigits,dif_pos (by omega)];rfl
def pad:Nat→Nat→List UInt8
 | 0,_=>[]
 | k+1,v=>pad k (v / 10)++[db (v%10)]
theorem zmM (k v:Nat):(pad k v).length=k:=by
 induction k generalizing v with
 | zero=>rfl
 | succ k ih=>simp [pad,ih]
theorem zru (k:Nat):pad k 0=List.replicate k 48:=by
 induction k with
 | zero=>rfl
 | succ k ih=>rw [pad,Nat.zero_div,ih,List.replicate_succ'];rfl
theorem zqS (k v:Nat) (h:v / 10 ^ k≠0):dd v=dd (v / 10 ^ k)++pad k v:=by
 induction k generalizing v with
 | zero=>simp [pad]
 | succ k ih =>
  have e:v / 10 ^ (k+1)=v / 10 / 10 ^ k:=by rw [Nat.pow_succ,Nat.mul_comm,Nat.div_div_eq_div_mul]
  rw [e] at h
  have h0:v≠0:=by rintro rfl;simp at h
  rw [zd3 h0,ih _ h,e,pad,List.append_assoc]
theorem ztZ (k v:Nat):pad k (v%10 ^ k)=pad k v:=by
 induction k generalizing v with
 | zero=>rfl
 | succ k ih =>
  have e1:v%10 ^ (k+1) / 10=v / 10%10 ^ k:=by rw [Nat.pow_succ,Nat.mul_comm,Nat.mod_mul_right_div_self]
  have e2:v%10 ^ (k+1)%10=v%10:=Nat.mod_mod_of_dvd _ ⟨10 ^ k,by rw [Nat.pow_succ,Nat.mul_comm]⟩
  rw [pad,pad,e1,e2,ih]
theorem zpe (k r:Nat) (hk:0<k) (h:r<10 ^ k):List.replicate (k - (Lib.decDigits r).length) 48++Lib.decDigits r=pad k r:=by
 induction k generalizing r with
 | zero=>omega
 | succ k ih =>
  rw [Lib.decDigits]
  by_cases h2:r<10
  ·rw [dif_pos h2,pad,show r / 10=0 by omega,zru,show r%10=r by omega]
   simp [db]
  ·rw [dif_neg h2,pad]
   rw [Nat.pow_succ] at h
   have hk2:0<k:=by
    rcases Nat.eq_zero_or_pos k with h0 | h0
    ·subst h0;simp at h;omega
    ·exact h0
   rw [← ih (r / 10) hk2 (by omega),List.append_assoc]
   simp only [List.length_append,List.length_cons,List.length_nil]
   rw [show k+1 - ((Lib.decDigits (r / 10)).length+(0+1))=k - (Lib.decDigits (r / 10)).length by omega]
   rfl
theorem zgz (k r:Nat) (hk:0<k) (h:r<10 ^ k):(Lib.decDigits r).length≤k:=by
 have h1:=congrArg List.length (zpe k r hk h)
 rw [zmM,List.length_append,List.length_replicate] at h1
 omega
def dvalA (a:Nat) (l:List UInt8):Nat:=l.foldl (fun a b=>a*10+(b.toNat - 48)) a
def dval (l:List UInt8):Nat:=dvalA 0 l
theorem zh8 (a:Nat) (l r:List UInt8):dvalA a (l++r)=dvalA (dvalA a l) r:=List.foldl_append
theorem zcO (l r:List UInt8):dval (l++r)=dvalA (dval l) r:=zh8 0 l r
theorem zgD (l:List UInt8) (a:Nat):dvalA a l=a*10 ^ l.length+dval l:=by
 induction l generalizing a with
 | nil=>simp [dvalA,dval]
 | cons b l ih =>
  have e:dvalA a (b::l)=dvalA (a*10+(b.toNat - 48)) l:=rfl
  have e2:dval (b::l)=dvalA (0*10+(b.toNat - 48)) l:=rfl
  rw [e,e2,ih,ih (0*10+(b.toNat - 48)),List.length_cons,Nat.pow_succ]
  rw [Nat.zero_mul,Nat.zero_add,Nat.add_mul,Nat.mul_assoc,Nat.mul_comm 10,Nat.add_assoc]
theorem zez (l:List UInt8) (b:UInt8):dval (l++[b])=dval l*10+(b.toNat - 48):=by rw [zcO];rfl
theorem zot:∀v:Nat,dval (dd v)=v:=by
 intro v
 induction v using Nat.strongRecOn with
 | _ v ih =>
  by_cases h:v=0
  ·subst h;rw [zbl];rfl
  ·rw [zd3 h,zez,ih _ (by omega),zgy (by omega)];omega
theorem zqW (v:Nat):dval (Lib.decDigits v)=v:=by
 by_cases h:v=0
 ·subst h;rw [zbc];rfl
 ·rw [zb5 v h,zot]
def AllD (l:List UInt8):Prop:=∀b∈l,48≤b.toNat∧b.toNat≤57
instance (l:List UInt8):Decidable (AllD l):=inferInstanceAs (Decidable (∀b∈l,48≤b.toNat∧b.toNat≤57))
theorem zaz {l r:List UInt8}:AllD (l++r)↔AllD l∧AllD r:=by
 simp only [AllD,List.mem_append]
 exact ⟨fun h=>⟨fun d hd=>h d (.inl hd),fun d hd=>h d (.inr hd)⟩,fun h d hd=>hd.elim (h.1 d) (h.2 d)⟩
theorem zte:∀v:Nat,AllD (dd v):=by
 intro v
 induction v using Nat.strongRecOn with
 | _ v ih =>
  by_cases h:v=0
  ·subst h;rw [zbl];intro b hb;cases hb
  ·rw [zd3 h,zaz]
   refine ⟨ih _ (by omega),fun b hb=>?_⟩
   rw [List.mem_singleton.1 hb,zgy (by omega)];omega
theorem zll (v:Nat):AllD (Lib.decDigits v):=by
 by_cases h:v=0
 ·subst h;rw [zbc];intro b hb;rw [List.mem_singleton.1 hb];decide
 ·rw [zb5 v h];exact zte v
theorem zj7 {l:List UInt8} (h:AllD l):dval l<10 ^ l.length:=by
 induction l with
 | nil=>simp [dval,dvalA]
 | cons b l ih =>
  have e2:dval (b::l)=dvalA (0*10+(b.toNat - 48)) l:=rfl
  have h1:=h b (by simp)
  have h2:=ih fun c hc=>h c (by simp [hc])
  rw [e2,zgD,List.length_cons,Nat.pow_succ,Nat.zero_mul,Nat.zero_add]
  have h3:(b.toNat - 48)*10 ^ l.length≤9*10 ^ l.length:=Nat.mul_le_mul_right _ (by omega)
  omega
theorem zgh:∀(t:List UInt8) (acc:Nat),(acc+1)*10 ^ t.length≤1000000000→Lib.parseUintM 4294967295 acc t=if AllD t then .ok (dvalA acc t) else .syntax:=by
 intro t
 induction t with
 | nil=>intro acc _;rw [if_pos (by intro b hb;cases hb)];rfl
 | cons b t ih =>
  intro acc h
  rw [List.length_cons,Nat.pow_succ,Nat.mul_comm (10 ^ t.length),← Nat.mul_assoc] at h
  have hp:1≤10 ^ t.length:=Nat.one_le_pow _ _ (by omega)
  have h0:(acc+1)*10*1≤(acc+1)*10*10 ^ t.length:=Nat.mul_le_mul_left _ hp
  unfold Lib.parseUintM
  by_cases hb:48≤b.toNat∧b.toNat≤57
  ·rw [if_pos hb,if_neg (by omega),if_neg (by omega),ih]
   ·by_cases ht:AllD t
    ·have hbt:AllD (b::t):=fun c hc=>(List.mem_cons.1 hc).elim (fun e=>e ▸ hb) (ht c)
     rw [if_pos ht,if_pos hbt];rfl
    ·have hbt:¬ AllD (b::t):=fun h=>ht fun c hc=>h c (by simp [hc])
     rw [if_neg ht,if_neg hbt]
   ·refine Nat.le_trans (Nat.mul_le_mul_right _ ?_) h
    omega
  ·rw [if_neg hb,if_neg (fun h=>hb (h b (by simp)))]
def cutN (s:List UInt8):Bool:=decide (s.head?=some 45)
def cutR (s:List UInt8):List UInt8:=if s.head?=some 45 then s.tail else s
def valS (s:List UInt8):Int:=sgn (cutN s) (dval (cutR s))
def zp (s:List UInt8):Option Int:=if Lib.itoa (valS s)=s∧(valS s).natAbs<big then some (valS s) else none
theorem zmt (v:Nat):Lib.decDigits v≠[]:=by
 intro h
 have:=Lib.nDigits_pos v
 rw [← Lib.decDigits_length,h] at this
 simp at this
theorem zc7 (x:Int):cutN (Lib.itoa x)=decide (x<0)∧cutR (Lib.itoa x)=Lib.decDigits x.natAbs:=by
 unfold Lib.itoa
 by_cases h:x<0
 ·rw [if_pos h]
  simp [cutN,cutR,h]
 ·rw [if_neg h,show x.toNat=x.natAbs by omega]
  have h1:¬ (Lib.decDigits x.natAbs).head?=some 45:=by
   intro e
   have:=zll x.natAbs 45 (List.mem_of_mem_head? e)
   exact absurd this.1 (by decide)
  simp [cutN,cutR,h,h1]
theorem zp1 (x:Int):valS (Lib.itoa x)=x:=by
 unfold valS
 rw [(zc7 x).1,(zc7 x).2,zqW]
 unfold sgn
 by_cases h:x<0
 ·simp [h];omega
 ·simp [h];omega
theorem zcS {x:Int} (h:x.natAbs<big):zp (Lib.itoa x)=some x:=by
 unfold zp
 rw [zp1,if_pos ⟨rfl,h⟩]
theorem zjS:big<10 ^ 640:=by unfold big;decide +kernel
theorem zio {s:List UInt8} (h:cutR s=[]):zp s=none:=by
 unfold zp
 rw [if_neg]
 rintro ⟨h1,_⟩
 have:=(zc7 (valS s)).2
 rw [h1,h] at this
 exact zmt _ this.symm
theorem zkw {s:List UInt8} (h:640<(cutR s).length):zp s=none:=by
 unfold zp
 rw [if_neg]
 rintro ⟨h1,h2⟩
 have:=(zc7 (valS s)).2
 rw [h1] at this
 rw [this] at h
 have:=zgz 640 (valS s).natAbs (by omega) (Nat.lt_trans h2 zjS)
 omega
theorem zf0 {s:List UInt8} (h:¬ AllD (cutR s)):zp s=none:=by
 unfold zp
 rw [if_neg]
 rintro ⟨h1,_⟩
 have:=(zc7 (valS s)).2
 rw [h1] at this
 rw [this] at h
 exact h (zll _)
theorem ziq {s:List UInt8} (h:¬ dval (cutR s)<big):zp s=none:=by
 unfold zp
 rw [if_neg]
 rintro ⟨_,h2⟩
 unfold valS at h2
 rw [qA] at h2
 exact h h2
end Go.Proofs.YtjcegdldgjphiaaGreatDoor
