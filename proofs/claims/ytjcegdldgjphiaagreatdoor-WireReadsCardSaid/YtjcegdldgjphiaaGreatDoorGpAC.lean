/-
  Merged: NumMath.
-/
import Derived.WalkKit
set_option linter.unusedSimpArgs false
set_option linter.unusedVariables false
namespace Go.Proofs.YtjcegdldgjphiaaGreatDoor
open Go.RowKit
def nval:List Nat→Nat
 | []=>0
 | d::l=>d+4294967296*nval l
def Dig (l:List Nat):Prop:=∀d∈l,d<4294967296
def Canon (l:List Nat):Prop:=Dig l∧l.getLast?≠some 0
theorem zj0:Dig []:=fun _ h=>by cases h
theorem zc0 {d:Nat} {l:List Nat}:Dig (d::l)↔d<4294967296∧Dig l:=by simp [Dig]
theorem zbt {a b:List Nat}:Dig (a++b)↔Dig a∧Dig b:=by
 simp only [Dig,List.mem_append]
 exact ⟨fun h=>⟨fun d hd=>h d (.inl hd),fun d hd=>h d (.inr hd)⟩,fun h d hd=>hd.elim (h.1 d) (h.2 d)⟩
theorem zaV {l:List Nat} (h:Dig l) (k:Nat):Dig (l.take k):=fun d hd=>h d (List.mem_of_mem_take hd)
theorem zem {l:List Nat} (h:Dig l) (k:Nat):Dig (l.drop k):=fun d hd=>h d (List.mem_of_mem_drop hd)
theorem qp (a b:List Nat):nval (a++b)=nval a+4294967296 ^ a.length*nval b:=by
 induction a with
 | nil=>simp [nval]
 | cons d a ih =>
  simp only [List.cons_append,nval,ih,List.length_cons,Nat.pow_succ]
  rw [Nat.mul_add,Nat.add_assoc,← Nat.mul_assoc,Nat.mul_comm 4294967296 (4294967296 ^ a.length)]
theorem zau (a:List Nat) (d:Nat):nval (a++[d])=nval a+4294967296 ^ a.length*d:=by
 rw [qp];simp [nval]
theorem qH {l:List Nat} (h:Dig l):nval l<4294967296 ^ l.length:=by
 induction l with
 | nil=>simp [nval]
 | cons d l ih =>
  rw [zc0] at h
  have:=ih h.2
  simp only [nval,List.length_cons,Nat.pow_succ]
  omega
theorem zbz (n:Nat):nval (List.replicate n 0)=0:=by
 induction n with
 | zero=>rfl
 | succ n ih=>simp [List.replicate_succ,nval,ih]
theorem zpj (n:Nat):0<4294967296 ^ n:=Nat.pow_pos (by omega)
theorem zhV:Canon []:=⟨zj0,by simp⟩
theorem zbL {l:List Nat} (h:Canon l) (hl:l≠[]):4294967296 ^ (l.length - 1)≤nval l:=by
 obtain ⟨a,d,rfl⟩:∃a d,l=a++[d]:=⟨l.dropLast,l.getLast hl,(List.dropLast_concat_getLast hl).symm⟩
 have hd:d≠0:=fun e=>h.2 (by simp [e])
 rw [zau]
 simp only [List.length_append,List.length_cons,List.length_nil,Nat.add_sub_cancel]
 have:4294967296 ^ a.length*1≤4294967296 ^ a.length*d:=Nat.mul_le_mul_left _ (by omega)
 omega
theorem qD {l:List Nat} (h:Canon l) (hv:nval l=0):l=[]:=by
 cases Decidable.em (l=[]) with
 | inl e=>exact e
 | inr e=>have:=zbL h e;have:=zpj (l.length - 1);omega
theorem zfN {d:Nat} {l:List Nat} (h:Canon (d::l)):Canon l:=by
 refine ⟨(zc0.1 h.1).2,fun e=>h.2 ?_⟩
 cases l with
 | nil=>cases e
 | cons x l=>simpa [List.getLast?_cons_cons] using e
theorem zod {a b:List Nat} (ha:Canon a) (hb:Canon b) (h:nval a=nval b):a=b:=by
 induction a generalizing b with
 | nil=>exact (qD hb (by rw [← h];rfl)).symm
 | cons d a ih =>
  cases b with
  | nil=>exact qD ha (by rw [h];rfl)
  | cons e b =>
   have h1:=(zc0.1 ha.1).1
   have h2:=(zc0.1 hb.1).1
   simp only [nval] at h
   have hde:d=e:=by omega
   subst hde
   rw [ih (zfN ha) (zfN hb) (by omega)]
theorem zaK {a b:List Nat} (ha:Dig a) (hb:Canon b) (h:a.length<b.length):nval a<nval b:=by
 have h1:=qH ha
 have h2:=zbL hb (by rintro rfl;simp at h)
 have h3:4294967296 ^ a.length≤4294967296 ^ (b.length - 1):=Nat.pow_le_pow_right (by omega) (by omega)
 omega
theorem zaJ {a b:List Nat} (ha:Canon a) (hb:Dig b) (h:nval a≤nval b):a.length≤b.length:=by
 rcases Nat.lt_or_ge b.length a.length with h1 | h1
 ·have:=zaK hb ha h1;omega
 ·exact h1
theorem qg {l:List Nat} (h:Canon l):l.length≤64↔nval l<4294967296 ^ 64:=by
 constructor
 ·intro hl
  exact Nat.lt_of_lt_of_le (qH h.1) (Nat.pow_le_pow_right (by omega) hl)
 ·intro hv
  rcases Nat.lt_or_ge 64 l.length with h1 | h1
  ·have h2:=zbL h (by rintro rfl;simp at h1)
   have h3:4294967296 ^ 64≤4294967296 ^ (l.length - 1):=Nat.pow_le_pow_right (by omega) (by omega)
   exact absurd (Nat.lt_of_lt_of_le hv (Nat.le_trans h3 h2)) (Nat.lt_irrefl _)
  ·exact h1
def trimL (l:List Nat):List Nat:=(l.reverse.dropWhile (· == 0)).reverse
theorem zcp (l:List Nat):trimL (l++[0])=trimL l:=by simp [trimL]
theorem ze4 {l:List Nat} (h:l.getLast?≠some 0):trimL l=l:=by
 unfold trimL
 cases hr:l.reverse with
 | nil=>rw [List.reverse_eq_nil_iff.1 hr];rfl
 | cons x r =>
  have hl:l=r.reverse++[x]:=by rw [← List.reverse_reverse l,hr];simp
  have hx:¬ x=0:=fun e=>h (by rw [hl,e];simp)
  rw [List.dropWhile_cons_of_neg (by simpa using hx),hl]
  simp
theorem zdW (l:List Nat):l=[]∨∃a d,l=a++[d]:=by
 by_cases h:l=[]
 ·exact .inl h
 ·exact .inr ⟨l.dropLast,l.getLast h,(List.dropLast_concat_getLast h).symm⟩
theorem zb0:∀(n:Nat) (l:List Nat),l.length=n→∃k,l=trimL l++List.replicate k 0∧(trimL l).getLast?≠some 0:=by
 intro n
 induction n with
 | zero =>
  intro l hl
  rw [List.eq_nil_of_length_eq_zero hl]
  exact ⟨0,by simp [trimL],by simp [trimL]⟩
 | succ n ih =>
  intro l hl
  rcases zdW l with rfl | ⟨a,d,rfl⟩
  ·simp at hl
  ·by_cases hd:d=0
   ·subst hd
    obtain ⟨k,h1,h2⟩:=ih a (by simpa using hl)
    rw [zcp]
    refine ⟨k+1,?_,h2⟩
    rw [List.replicate_succ',← List.append_assoc,← h1]
   ·have e:trimL (a++[d])=a++[d]:=ze4 (by simpa using hd)
    rw [e]
    exact ⟨0,by simp,by simpa using hd⟩
theorem zfs {l:List Nat} (h:Dig l):Canon (trimL l):=by
 obtain ⟨k,h1,h2⟩:=zb0 _ l rfl
 rw [h1,zbt] at h
 exact ⟨h.1,h2⟩
theorem zmH (l:List Nat):nval (trimL l)=nval l:=by
 obtain ⟨k,h1,_⟩:=zb0 _ l rfl
 have:nval l=nval (trimL l++List.replicate k 0):=by rw [← h1]
 rw [this,qp,zbz];simp
theorem zco (l:List Nat):(trimL l).length≤l.length:=by
 obtain ⟨k,h1,_⟩:=zb0 _ l rfl
 have:l.length=(trimL l++List.replicate k 0).length:=by rw [← h1]
 rw [this];simp
theorem zgg (l:List Nat):l.take (trimL l).length=trimL l:=by
 obtain ⟨k,h1,_⟩:=zb0 _ l rfl
 have:l.take (trimL l).length=(trimL l++List.replicate k 0).take (trimL l).length:=by rw [← h1]
 rw [this];simp
theorem zdn {l:List Nat} {k:Nat} (hk:k<l.length) (h:l[k]=0):trimL (l.take (k+1))=trimL (l.take k):=by
 rw [List.take_succ_eq_append_getElem hk,h,zcp]
theorem zef {l:List Nat} {k:Nat} (hk:k<l.length) (h:l[k]≠0):trimL (l.take (k+1))=l.take (k+1):=by
 refine ze4 ?_
 rw [List.take_succ_eq_append_getElem hk,List.getLast?_append]
 simp only [List.getLast?_singleton,Option.some_or]
 exact fun e=>h (Option.some.inj e)
def digs (v:Nat):List Nat:=if v=0 then [] else v%4294967296::digs (v / 4294967296)
termination_by v
decreasing_by omega
theorem zx:digs 0=[]:=by rw [digs];rfl
theorem zgA {v:Nat} (h:v≠0):digs v=v%4294967296::digs (v / 4294967296):=by rw [digs,if_neg h]
theorem zn:∀v,nval (digs v)=v:=by
 intro v
 induction v using Nat.strongRecOn with
 | _ v ih =>
  by_cases h:v=0
  ·subst h;rw [zx];rfl
  ·rw [zgA h,nval,ih _ (by omega)];omega
theorem zL:∀v,Canon (digs v):=by
 intro v
 induction v using Nat.strongRecOn with
 | _ v ih =>
  by_cases h:v=0
  ·subst h;rw [zx];exact zhV
  ·rw [zgA h]
   have hi:=ih (v / 4294967296) (by omega)
   refine ⟨zc0.2 ⟨by omega,hi.1⟩,?_⟩
   by_cases h2:v / 4294967296=0
   ·rw [h2,zx];simp;omega
   ·have hi2:=hi.2
    rw [zgA h2] at hi2 ⊢
    rw [List.getLast?_cons_cons];exact hi2
theorem zbm {l:List Nat} (h:Canon l):l=digs (nval l):=zod h (zL _) (zn _).symm
theorem zbE {l:List Nat} (h:Dig l):trimL l=digs (nval l):=by
 rw [zbm (zfs h),zmH]
theorem zaq (v:Nat):(digs v).length≤64↔v<4294967296 ^ 64:=by
 have:=qg (zL v)
 rwa [zn] at this
theorem zcu {v:Nat}:digs v=[]↔v=0:=by
 constructor
 ·intro h;rw [← zn v,h];rfl
 ·rintro rfl;exact zx
theorem zcH {l:List Nat} {k:Nat} (hk:k<l.length):nval (l.take (k+1))=nval (l.take k)+4294967296 ^ k*l[k]:=by
 rw [List.take_succ_eq_append_getElem hk,zau,List.length_take,Nat.min_eq_left (by omega)]
theorem zfr {l:List Nat} {k:Nat} (hk:l.length≤k):nval (l.take (k+1))=nval (l.take k):=by
 rw [List.take_of_length_le hk,List.take_of_length_le (by omega)]
end Go.Proofs.YtjcegdldgjphiaaGreatDoor
