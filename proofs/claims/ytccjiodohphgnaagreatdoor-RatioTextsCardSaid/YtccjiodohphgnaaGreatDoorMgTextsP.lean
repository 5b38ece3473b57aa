/-
  RatioTexts is proved: whatever the input, the law returns true and each argument reads as it did, where the listed variables read as listed; and the card, which ties it to the program's text.
-/
import Derived.Test.YtccjiodohphgnaaGreatDoorMgAV
import Derived.Test.YtccjiodohphgnaaGreatDoorMgAR
import Derived.Test.YtccjiodohphgnaaGreatDoorCards
import Derived.Test.YtccjiodohphgnaaGreatDoorTie
import Derived.SevenTiedAt
set_option linter.unusedSimpArgs false
set_option linter.unusedVariables false
set_option maxRecDepth 100000
set_option maxHeartbeats 4000000
namespace Go.Proofs.YtccjiodohphgnaaGreatDoor
theorem zjA {v:Nat} (h:v<2 ^ 97):(Lib.decDigits v).length≤30:=by
 by_cases h0:v=0
 ·subst h0;rw [zbN];simp
 ·rw [zcJ v h0]
  have h1:=Nat.lt_of_le_of_lt (zsU v h0) (Nat.lt_trans h (show 2 ^ 97<10 ^ 30 by decide +kernel))
  have:=(Nat.pow_lt_pow_iff_right (a:=10) (by decide)).1 h1
  omega
theorem zg9 {x:Int} (h:x.natAbs<2 ^ 97):(Lib.itoa x).length≤31:=by
 unfold Lib.itoa
 split
 ·rw [List.length_cons]
  have:=zjA h
  omega
 ·have:=zjA (v:=x.toNat) (by omega)
  omega
theorem zqr:∀v:Nat,∀c∈dd v,c≠47:=by
 intro v
 induction v using Nat.strongRecOn with
 | _ v ih =>
  intro c hc
  by_cases h:v=0
  ·subst h;rw [zbZ] at hc;cases hc
  ·rw [zeJ h,List.mem_append] at hc
   rcases hc with hc | hc
   ·exact ih _ (by omega) c hc
   ·rw [List.mem_singleton] at hc
    subst hc
    intro e
    have:=congrArg UInt8.toNat e
    revert this
    have h10:v%10<10:=Nat.mod_lt _ (by decide)
    revert h10
    generalize v%10=d
    intro h10
    match d,h10 with
    | 0,_ | 1,_ | 2,_ | 3,_ | 4,_ | 5,_ | 6,_ | 7,_ | 8,_ | 9,_=>decide
    | d+10,h=>omega
theorem zjB (v:Nat):∀c∈Lib.decDigits v,c≠47:=by
 by_cases h0:v=0
 ·subst h0;rw [zbN];intro c hc;rw [List.mem_singleton] at hc;subst hc;decide
 ·rw [zcJ v h0];exact zqr v
theorem zmW (x:Int):∀c∈Lib.itoa x,c≠47:=by
 unfold Lib.itoa
 split
 ·intro c hc
  rcases List.mem_cons.1 hc with rfl | hc
  ·decide
  ·exact zjB _ c hc
 ·exact zjB _
theorem znG {s:List UInt8} (h:∀c∈s,c≠47):qe s=s.length:=by
 unfold qe
 rw [List.findIdx_eq_length]
 intro c hc
 simpa using h c hc
theorem znH {s t:List UInt8} (h:∀c∈s,c≠47):qe (s++[47]++t)=s.length:=by
 unfold qe
 induction s with
 | nil=>simp [List.findIdx_cons]
 | cons c s ih =>
  have hc:(c == 47)=false:=by simpa using h c (List.mem_cons_self ..)
  rw [List.cons_append,List.cons_append,List.findIdx_cons,hc,cond_false,List.length_cons]
  congr 1
  exact ih fun d hd=>h d (List.mem_cons_of_mem _ hd)
section
variable {p:Rat}
theorem zmv {x:Int} (h:x.natAbs<big):textS (nz x).1 (nz x).2=Lib.itoa x:=zca h
theorem zmt {k:Nat} (h:Sz k p) (hk:k≤2048):textR (rq (some p))=if p.den=1 then Lib.itoa p.num else Lib.itoa p.num++[47]++Lib.itoa (p.den:Int):=by
 have e1:textS (rq (some p)).1.1 (rq (some p)).1.2=Lib.itoa p.num:=zmv (h.nb hk)
 have e2:textS (rq (some p)).2.1 (rq (some p)).2.2=Lib.itoa (p.den:Int):=zmv (x:=(p.den:Int)) (by rw [Int.natAbs_natCast];exact h.db hk)
 have e3:cmpX (rq (some p)).2 (nz 1)=cmpI (p.den:Int) 1:=zaq (by rw [Int.natAbs_natCast];exact h.db hk) (qd (by decide))
 unfold textR
 rw [if_pos (rr_sz h hk),e1,e2,e3]
 have:(cmpI (p.den:Int) 1=0)↔p.den=1:=by
  unfold cmpI
  split
  ·constructor<;>intro h<;>omega
  ·split
   ·constructor<;>intro h<;>omega
   ·constructor<;>intro h<;>omega
 simp only [this]
theorem zpY (h:Sz 97 p):(textR (rq (some p))).length≤63:=by
 rw [zmt h (by decide)]
 have h1:=zg9 h.n
 have h2:=zg9 (x:=(p.den:Int)) (by rw [Int.natAbs_natCast];exact h.d)
 split
 ·omega
 ·simp only [List.length_append,List.length_cons,List.length_nil];omega
theorem zkF {k:Nat} (h:Sz k p) (hk:k≤2048):rawP (textR (rq (some p)))=rq (some p)∧okO (zk (qb (textR (rq (some p)))))=true∧okO (zk (qa (textR (rq (some p)))))=true:=by
 have a1:=zdy (h.nb hk)
 have a2:=zdy (x:=(p.den:Int)) (by rw [Int.natAbs_natCast];exact h.db hk)
 have hs:=zmW p.num
 obtain ⟨t,ht⟩:∃t,textR (rq (some p))=t:=⟨_,rfl⟩
 rw [ht]
 rw [zmt h hk] at ht
 have key:qb t=Lib.itoa p.num∧zk (qa t)=some (p.den:Int):=by
  by_cases hd:p.den=1
  ·rw [if_pos hd] at ht
   subst ht
   unfold qb qa
   rw [znG hs,if_neg (by omega),List.take_length]
   refine ⟨rfl,?_⟩
   rw [hd,show ([49]:List UInt8)=Lib.itoa 1 by decide +kernel]
   exact zdy (x:=1) (qd (by decide))
  ·rw [if_neg hd] at ht
   subst ht
   unfold qb qa
   rw [znH hs,if_pos (by simp),List.append_assoc,List.take_left]
   refine ⟨rfl,?_⟩
   rw [← List.append_assoc,List.drop_append_of_le_length (by simp)]
   rw [List.drop_of_length_le (by simp),List.nil_append]
   exact a2
 refine ⟨?_,?_,?_⟩
 ·unfold rawP
  rw [key.1,key.2,a1];rfl
 ·rw [key.1,a1];rfl
 ·rw [key.2];rfl
theorem zme {k:Nat} (h:Sz k p) (hk:k≤2048):okP (textR (rq (some p)))=true:=by
 obtain ⟨h1,h2,h3⟩:=zkF h hk
 unfold okP
 rw [h1,h2,h3,rr_sz h hk]
 simp
theorem zph {k:Nat} (h:Sz k p) (hk:k≤2048):parR (textR (rq (some p)))=rq (some p):=by
 unfold parR
 rw [if_pos (zme h hk)]
 exact (zkF h hk).1
end
theorem zpZ {s:List UInt8} (h:okP s=true):textR (parR s)=s:=by
 unfold parR
 rw [if_pos h]
 unfold okP at h
 simp only [Bool.and_eq_true,beq_iff_eq] at h
 exact h.2
theorem qG (l:List Int):∃t,textR (rq (madeR l))=t∧t.length≤63∧okP t=true∧parR t=rq (madeR l):=by
 obtain ⟨p,e,h⟩:=zdx l
 rw [e]
 exact ⟨_,rfl,zpY h,zme h (by decide),zph h (by decide)⟩
end Go.Proofs.YtccjiodohphgnaaGreatDoor
namespace Go.Proofs.YtccjiodohphgnaaGreatDoor
open Go.RowKit Go.Shelf
def cS (s:List UInt8):List Pred:=[pS s]
theorem zep {w0:World} (s:List UInt8):FineAll (KN w0) (cS s):=⟨za rfl,trivial⟩
theorem zaJ {n m:Int} (h:0<m) (h2:m<4611686018427387904):0≤modI n m∧modI n m<m:=by
 unfold modI
 rw [if_neg (by omega)]
 have a1:=Int.tmod_lt_of_pos n h
 have a2:=Int.lt_tmod_of_pos n h
 rw [wr64 (by omega),Int.tmod_eq_emod_of_nonneg (by omega)]
 exact ⟨Int.emod_nonneg _ (by omega),Int.emod_lt_of_pos _ h⟩
structure txt_T where
 i:Int
def zbu:List Atom:=(.sl 0 (.o (.c (.h 0)))::.sl 1 (.o (.g [.h 1,.h 2,.h 3,.h 4]))::.sl 2 (.o (.c (.h 14)))::.sl 3 (.o (.c (.h 6)))::.sl 5 (.o (.c (.p 0 0)))::.sl 9 (.o (.c (.h 7)))::.sl 10 (.o (.c (.p 15 0)))::.sl 11 (.o (.c (.h 19)))::.sl 12 (.o (.c (.p 25 0)))::.sl 13 (.o (.c (.h 24)))::.sl 14 (.o (.c (.h 35)))::.sl 21 (.o (.c (.h 7)))::.sl 22 (.o (.g [.h 1,.h 2,.h 3,.h 4]))::.sl 23 (.o (.g [.h 8,.h 9,.h 10,.h 11]))::.sl 24 (.o (.c (.h 5)))::.sl 25 (.o (.c (.h 5)))::.sl 26 (.o (.c (.h 12)))::.sl 27 (.o (.c (.h 13)))::.sl 28 (.o (.c (.h 14)))::.sl 29 (.o (.c (.h 0)))::.sl 30 (.o (.g [.h 15,.h 16,.h 17,.h 18]))::.sl 31 (.o (.g [.h 15,.h 16,.h 17,.h 18]))::.sl 32 (.o (.c (.h 19)))::.sl 34 (.o (.c (.h 19)))::.sl 36 (.o (.g [.h 20,.h 21,.h 22,.h 23]))::.sl 37 (.o (.c (.h 24)))::.sl 38 (.o (.c (.h 19)))::.sl 39 (.o (.g [.h 15,.h 16,.h 17,.h 18]))::.sl 40 (.o (.c (.h 25)))::.sl 41 (.o (.c (.h 26)))::.sl 42 (.o (.c (.h 26)))::.sl 43 (.o (.g [.h 8,.h 9,.h 10,.h 11]))::.sl 44 (.o (.c (.h 27)))::.sl 45 (.o (.g [.h 8,.h 9,.h 10,.h 11]))::.sl 46 (.o (.c (.h 28)))::.sl 47 (.o (.c (.h 29)))::.sl 48 (.o (.c (.h 29)))::.sl 49 (.o (.c (.h 29)))::.sl 50 (.o (.c (.h 24)))::.sl 51 (.o (.c (.h 30)))::.sl 52 (.o (.c (.h 30)))::.sl 53 (.o (.c (.h 30)))::.sl 54 (.o (.g [.h 15,.h 16,.h 17,.h 18]))::.sl 55 (.o (.g [.h 20,.h 21,.h 22,.h 23]))::.sl 56 (.o (.c (.h 31)))::.sl 57 (.o (.c (.h 32)))::.sl 58 (.o (.c (.h 32)))::.sl 59 (.o (.c (.h 6)))::.sl 60 (.o (.c (.h 19)))::.sl 61 (.o (.c (.h 33)))::.sl 62 (.o (.c (.h 34)))::.sl 63 (.o (.c (.h 35)))::.sl 64 (.o (.c (.h 14)))::.sl 65 (.o (.c (.h 19)))::.sl 66 (.o (.c (.h 35)))::.sl 67 (.o (.c (.h 36)))::.sl 68 (.o (.c (.h 19)))::.sl 69 (.o (.c (.h 35)))::.sl 70 (.o (.c (.h 37)))::.sl 71 (.o (.c (.h 14)))::.sl 72 (.o (.c (.h 38)))::.sl 73 (.o (.c (.h 19)))::.sl 74 (.o (.c (.h 35)))::.sl 75 (.o (.c (.h 39)))::.sl 76 (.o (.c (.h 40)))::.sl 77 (.o (.c (.h 19)))::.sl 78 (.o (.c (.h 41)))::.sl 79 (.o (.c (.h 19)))::.sl 80 (.o (.c (.h 42)))::.sl 81 (.o (.c (.h 19)))::.sl 82 (.o (.c (.h 35)))::.sl 83 (.o (.c (.h 43)))::.sl 84 (.o (.c (.h 44)))::.sl 85 (.o (.c (.h 19)))::.sl 86 (.o (.c (.h 35)))::.sl 87 (.o (.c (.h 45)))::.sl 88 (.o (.c (.h 46)))::.sl 89 (.o (.c (.h 47)))::.sl 90 (.o (.c (.h 48)))::.sl 91 (.o (.c (.h 49)))::.bx 0 28 [.h 8,.h 9,.h 10,.h 11]::.bx 15 28 [.h 15,.h 16,.h 17,.h 18]::.bx 25 28 [.h 20,.h 21,.h 22,.h 23]::[]:List Atom)
def txt_S:LoopS:=⟨11,(.sl 0 (.o (.c (.h 0)))::.sl 1 (.o (.g [.h 1,.h 2,.h 3,.h 4]))::.sl 2 (.o (.c (.h 14)))::.sl 3 (.o (.c (.h 6)))::.sl 5 (.o (.c (.p 0 0)))::.sl 9 (.o (.c (.h 7)))::.sl 10 (.o (.c (.p 15 0)))::.sl 11 (.o (.c (.h 19)))::.sl 12 (.o (.c (.p 25 0)))::.sl 13 (.o (.c (.h 24)))::.sl 14 (.o (.c (.h 35)))::.sl 21 (.o (.c (.h 7)))::.sl 22 (.o (.g [.h 1,.h 2,.h 3,.h 4]))::.sl 23 (.o (.g [.h 8,.h 9,.h 10,.h 11]))::.sl 24 (.o (.c (.h 5)))::.sl 25 (.o (.c (.h 5)))::.sl 26 (.o (.c (.h 12)))::.sl 27 (.o (.c (.h 13)))::.sl 28 (.o (.c (.h 14)))::.sl 29 (.o (.c (.h 0)))::.sl 30 (.o (.g [.h 15,.h 16,.h 17,.h 18]))::.sl 31 (.o (.g [.h 15,.h 16,.h 17,.h 18]))::.sl 32 (.o (.c (.h 19)))::.sl 34 (.o (.c (.h 19)))::.sl 36 (.o (.g [.h 20,.h 21,.h 22,.h 23]))::.sl 37 (.o (.c (.h 24)))::.sl 38 (.o (.c (.h 19)))::.sl 39 (.o (.g [.h 15,.h 16,.h 17,.h 18]))::.sl 40 (.o (.c (.h 25)))::.sl 41 (.o (.c (.h 26)))::.sl 42 (.o (.c (.h 26)))::.sl 43 (.o (.g [.h 8,.h 9,.h 10,.h 11]))::.sl 44 (.o (.c (.h 27)))::.sl 45 (.o (.g [.h 8,.h 9,.h 10,.h 11]))::.sl 46 (.o (.c (.h 28)))::.sl 47 (.o (.c (.h 29)))::.sl 48 (.o (.c (.h 29)))::.sl 49 (.o (.c (.h 29)))::.sl 50 (.o (.c (.h 24)))::.sl 51 (.o (.c (.h 30)))::.sl 52 (.o (.c (.h 30)))::.sl 53 (.o (.c (.h 30)))::.sl 54 (.o (.g [.h 15,.h 16,.h 17,.h 18]))::.sl 55 (.o (.g [.h 20,.h 21,.h 22,.h 23]))::.sl 56 (.o (.c (.h 31)))::.sl 57 (.o (.c (.h 32)))::.sl 58 (.o (.c (.h 32)))::.sl 59 (.o (.c (.h 6)))::.sl 60 (.o (.c (.h 19)))::.sl 61 (.o (.c (.h 33)))::.sl 62 (.o (.c (.h 34)))::.sl 63 (.o (.c (.h 35)))::.sl 64 (.o (.c (.h 14)))::.sl 65 (.o (.c (.h 19)))::.sl 66 (.o (.c (.h 35)))::.sl 67 (.o (.c (.h 36)))::.sl 68 (.o (.c (.h 19)))::.sl 69 (.o (.c (.h 35)))::.sl 70 (.o (.c (.h 37)))::.sl 71 (.o (.c (.h 14)))::.sl 72 (.o (.c (.h 38)))::.sl 73 (.o (.c (.h 19)))::.sl 74 (.o (.c (.h 35)))::.sl 75 (.o (.c (.h 39)))::.sl 76 (.o (.c (.h 40)))::.sl 77 (.o (.c (.h 19)))::.sl 78 (.o (.c (.h 41)))::.sl 79 (.o (.c (.h 19)))::.sl 80 (.o (.c (.h 42)))::.sl 81 (.o (.c (.h 19)))::.sl 82 (.o (.c (.h 35)))::.sl 83 (.o (.c (.h 43)))::.sl 84 (.o (.c (.h 44)))::.sl 85 (.o (.c (.h 19)))::.sl 86 (.o (.c (.h 35)))::.sl 87 (.o (.c (.h 45)))::.sl 88 (.o (.c (.h 46)))::.sl 89 (.o (.c (.h 47)))::.sl 90 (.o (.c (.h 48)))::.sl 91 (.o (.c (.k (.int .i64 0))))::.bx 0 28 [.h 8,.h 9,.h 10,.h 11]::.bx 15 28 [.h 15,.h 16,.h 17,.h 18]::.bx 25 28 [.h 20,.h 21,.h 22,.h 23]::[]:List Atom),(.x 0),(.sl 0 (.o (.c (.h 0)))::.sl 1 (.o (.g [.h 1,.h 2,.h 3,.h 4]))::.sl 2 (.o (.c (.h 14)))::.sl 3 (.o (.c (.h 6)))::.sl 5 (.o (.c (.p 0 0)))::.sl 9 (.o (.c (.h 7)))::.sl 10 (.o (.c (.p 15 0)))::.sl 11 (.o (.c (.h 19)))::.sl 12 (.o (.c (.p 25 0)))::.sl 13 (.o (.c (.h 24)))::.sl 14 (.o (.c (.h 35)))::.sl 21 (.o (.c (.h 7)))::.sl 22 (.o (.g [.h 1,.h 2,.h 3,.h 4]))::.sl 23 (.o (.g [.h 8,.h 9,.h 10,.h 11]))::.sl 24 (.o (.c (.h 5)))::.sl 25 (.o (.c (.h 5)))::.sl 26 (.o (.c (.h 12)))::.sl 27 (.o (.c (.h 13)))::.sl 28 (.o (.c (.h 14)))::.sl 29 (.o (.c (.h 0)))::.sl 30 (.o (.g [.h 15,.h 16,.h 17,.h 18]))::.sl 31 (.o (.g [.h 15,.h 16,.h 17,.h 18]))::.sl 32 (.o (.c (.h 19)))::.sl 34 (.o (.c (.h 19)))::.sl 36 (.o (.g [.h 20,.h 21,.h 22,.h 23]))::.sl 37 (.o (.c (.h 24)))::.sl 38 (.o (.c (.h 19)))::.sl 39 (.o (.g [.h 15,.h 16,.h 17,.h 18]))::.sl 40 (.o (.c (.h 25)))::.sl 41 (.o (.c (.h 26)))::.sl 42 (.o (.c (.h 26)))::.sl 43 (.o (.g [.h 8,.h 9,.h 10,.h 11]))::.sl 44 (.o (.c (.h 27)))::.sl 45 (.o (.g [.h 8,.h 9,.h 10,.h 11]))::.sl 46 (.o (.c (.h 28)))::.sl 47 (.o (.c (.h 29)))::.sl 48 (.o (.c (.h 29)))::.sl 49 (.o (.c (.h 29)))::.sl 50 (.o (.c (.h 24)))::.sl 51 (.o (.c (.h 30)))::.sl 52 (.o (.c (.h 30)))::.sl 53 (.o (.c (.h 30)))::.sl 54 (.o (.g [.h 15,.h 16,.h 17,.h 18]))::.sl 55 (.o (.g [.h 20,.h 21,.h 22,.h 23]))::.sl 56 (.o (.c (.h 31)))::.sl 57 (.o (.c (.h 32)))::.sl 58 (.o (.c (.h 32)))::.sl 59 (.o (.c (.h 6)))::.sl 60 (.o (.c (.h 19)))::.sl 61 (.o (.c (.h 33)))::.sl 62 (.o (.c (.h 34)))::.sl 63 (.o (.c (.h 35)))::.sl 64 (.o (.c (.h 14)))::.sl 65 (.o (.c (.h 19)))::.sl 66 (.o (.c (.h 35)))::.sl 67 (.o (.c (.h 36)))::.sl 68 (.o (.c (.h 19)))::.sl 69 (.o (.c (.h 35)))::.sl 70 (.o (.c (.h 37)))::.sl 71 (.o (.c (.h 14)))::.sl 72 (.o (.c (.h 38)))::.sl 73 (.o (.c (.h 19)))::.sl 74 (.o (.c (.h 35)))::.sl 75 (.o (.c (.h 39)))::.sl 76 (.o (.c (.h 40)))::.sl 77 (.o (.c (.h 19)))::.sl 78 (.o (.c (.h 41)))::.sl 79 (.o (.c (.h 19)))::.sl 80 (.o (.c (.h 42)))::.sl 81 (.o (.c (.h 19)))::.sl 82 (.o (.c (.h 35)))::.sl 83 (.o (.c (.h 43)))::.sl 84 (.o (.c (.h 44)))::.sl 85 (.o (.c (.h 19)))::.sl 86 (.o (.c (.h 35)))::.sl 87 (.o (.c (.h 45)))::.sl 88 (.o (.c (.h 46)))::.sl 89 (.o (.c (.h 47)))::.sl 90 (.o (.c (.h 48)))::.bx 0 28 [.h 8,.h 9,.h 10,.h 11]::.bx 15 28 [.h 15,.h 16,.h 17,.h 18]::.bx 25 28 [.h 20,.h 21,.h 22,.h 23]::[]:List Atom)⟩
theorem zw8 {w0:World} (hM:∀W,Below w0.heap.size w0 W→MaxT W) (hTS:∀W,Below w0.heap.size w0 W→PowT w0.heap.size W∧SynT w0.heap.size W) (l:(List Int)) (raw:RR) (s:(List UInt8)) (pl:Int) (v1:Bool) (v2:RR) (v3:Int) (v4:Int) (n5:Nat) (v7:(List UInt8)) (v9:RR) (v10:(List UInt8)) (v11:RR) (v12:Bool) (v14:(List UInt8)) (v15:Bool) (v17:(List UInt8)) (v18:(List UInt8)) (v19:Bool) (v21:Bool) (v23:Bool) (v24:Bool) (v26:Int) (v27:Int) (v28:Int) (n29:Nat) (v31:(List UInt8)) (n33:Nat) (v35:(List UInt8)) (v37:(List UInt8)) (n39:Nat) (v41:(List UInt8)) (v43:(List UInt8)) (v45:(List UInt8)) (v47:(List UInt8)) (n49:Nat) (v51:(List UInt8)) (v53:(List UInt8)) (n55:Nat) (v57:(List UInt8)) (v59:(List UInt8)) (v61:(List (List UInt8))) (v62:Int) (h16:v15=false) (h20:v19=false) (h22:v21=false) (h25:v24=false) (i:Int) (v501:Bool) (n503:Nat) (x504:(List UInt8)) (v507:RR) (v508:Bool) (v510:RR) (v511:Bool) (v513:Bool) (v515:Bool) (v516:Bool) (v519:(List UInt8)) (v520:Bool) (v522:Int) (e501:(decide (i<v62))=v501) (e507:(parR x504)=v507) (e508:(okP x504)=v508) (e510:(parR x504)=v510) (e511:(okP x504)=v511) (e513:(!(v508 == v511))=v513) (e515:(decide (v507=v510))=v515) (e516:(!v515)=v516) (e519:(textR v507)=v519) (e520:(!((v519:List UInt8) == x504))=v520) (e522:(IntKind.i64.wrap (i+(1:Int)))=v522) (h502:v501=true) (s505:i=(n503:Int)) (s506:v61[n503]?=some x504) (s509:(x504:List UInt8).length<4294967281) (s512:(x504:List UInt8).length≤1000) (h514:v513=false) (h517:v516=false) (h518:v508=true) (h521:v520=false) (i':Int) (q0:(v522)=i') (R:Frm) (hR:R.pm=⟨ntOf Tryz.prog 6,[],[]⟩):Goes (KN w0) Tryz.prog R (lp Tryz.prog 6 0) (FL [pLs cI l,pB raw.1.1,pD raw.1.2,pB raw.2.1,pD raw.2.2,pS s,pI pl,pB v1,pB v2.1.1,pD v2.1.2,pB v2.2.1,pD v2.2.2,pI v3,pI v4,pS v7,pB v9.1.1,pD v9.1.2,pB v9.2.1,pD v9.2.2,pS v10,pB v11.1.1,pD v11.1.2,pB v11.2.1,pD v11.2.2,pB v12,pS v14,pB v15,pS v17,pS v18,pB v19,pB v21,pB v23,pB v24,pI v26,pI v27,pI v28,pS v31,pS v35,pS v37,pS v41,pS v43,pS v45,pS v47,pS v51,pS v53,pS v57,pS v59,pLs cS v61,pI v62,pI i] []) zbu .n (FL [pLs cI l,pB raw.1.1,pD raw.1.2,pB raw.2.1,pD raw.2.2,pS s,pI pl,pB v1,pB v2.1.1,pD v2.1.2,pB v2.2.1,pD v2.2.2,pI v3,pI v4,pS v7,pB v9.1.1,pD v9.1.2,pB v9.2.1,pD v9.2.2,pS v10,pB v11.1.1,pD v11.1.2,pB v11.2.1,pD v11.2.2,pB v12,pS v14,pB v15,pS v17,pS v18,pB v19,pB v21,pB v23,pB v24,pI v26,pI v27,pI v28,pS v31,pS v35,pS v37,pS v41,pS v43,pS v45,pS v47,pS v51,pS v53,pS v57,pS v59,pLs cS v61,pI v62,pI i'] []) zbu:=
 goes (x:=.n) (y:=.n) (Fb:=FL (pLs cI l::pB raw.1.1::pD raw.1.2::pB raw.2.1::pD raw.2.2::pS s::pI pl::pB v1::pB v2.1.1::pD v2.1.2::pB v2.2.1::pD v2.2.2::pI v3::pI v4::pS v7::pB v9.1.1::pD v9.1.2::pB v9.2.1::pD v9.2.2::pS v10::pB v11.1.1::pD v11.1.2::pB v11.2.1::pD v11.2.2::pB v12::pS v14::pB v15::pS v17::pS v18::pB v19::pB v21::pB v23::pB v24::pI v26::pI v27::pI v28::pS v31::pS v35::pS v37::pS v41::pS v43::pS v45::pS v47::pS v51::pS v53::pS v57::pS v59::pLs cS v61::pI v62::pI i::pB v501::pP (cS x504)::pS x504::pB v507.1.1::pD v507.1.2::pB v507.2.1::pD v507.2.2::pB v508::pB v510.1.1::pD v510.1.2::pB v510.2.1::pD v510.2.2::pB v511::pB v513::pB v515::pB v516::pS v519::pB v520::pI v522::[]) []) (stb:=zbu) (tl:=(.sl 0 (.o (.c (.h 0)))::.sl 1 (.o (.g [.h 1,.h 2,.h 3,.h 4]))::.sl 2 (.o (.c (.h 14)))::.sl 3 (.o (.c (.h 6)))::.sl 5 (.o (.c (.p 0 0)))::.sl 9 (.o (.c (.h 7)))::.sl 10 (.o (.c (.p 15 0)))::.sl 11 (.o (.c (.h 19)))::.sl 12 (.o (.c (.p 25 0)))::.sl 13 (.o (.c (.h 24)))::.sl 14 (.o (.c (.h 35)))::.sl 21 (.o (.c (.h 7)))::.sl 22 (.o (.g [.h 1,.h 2,.h 3,.h 4]))::.sl 23 (.o (.g [.h 8,.h 9,.h 10,.h 11]))::.sl 24 (.o (.c (.h 5)))::.sl 25 (.o (.c (.h 5)))::.sl 26 (.o (.c (.h 12)))::.sl 27 (.o (.c (.h 13)))::.sl 28 (.o (.c (.h 14)))::.sl 29 (.o (.c (.h 0)))::.sl 30 (.o (.g [.h 15,.h 16,.h 17,.h 18]))::.sl 31 (.o (.g [.h 15,.h 16,.h 17,.h 18]))::.sl 32 (.o (.c (.h 19)))::.sl 34 (.o (.c (.h 19)))::.sl 36 (.o (.g [.h 20,.h 21,.h 22,.h 23]))::.sl 37 (.o (.c (.h 24)))::.sl 38 (.o (.c (.h 19)))::.sl 39 (.o (.g [.h 15,.h 16,.h 17,.h 18]))::.sl 40 (.o (.c (.h 25)))::.sl 41 (.o (.c (.h 26)))::.sl 42 (.o (.c (.h 26)))::.sl 43 (.o (.g [.h 8,.h 9,.h 10,.h 11]))::.sl 44 (.o (.c (.h 27)))::.sl 45 (.o (.g [.h 8,.h 9,.h 10,.h 11]))::.sl 46 (.o (.c (.h 28)))::.sl 47 (.o (.c (.h 29)))::.sl 48 (.o (.c (.h 29)))::.sl 49 (.o (.c (.h 29)))::.sl 50 (.o (.c (.h 24)))::.sl 51 (.o (.c (.h 30)))::.sl 52 (.o (.c (.h 30)))::.sl 53 (.o (.c (.h 30)))::.sl 54 (.o (.g [.h 15,.h 16,.h 17,.h 18]))::.sl 55 (.o (.g [.h 20,.h 21,.h 22,.h 23]))::.sl 56 (.o (.c (.h 31)))::.sl 57 (.o (.c (.h 32)))::.sl 58 (.o (.c (.h 32)))::.sl 59 (.o (.c (.h 6)))::.sl 60 (.o (.c (.h 19)))::.sl 61 (.o (.c (.h 33)))::.sl 62 (.o (.c (.h 34)))::.sl 63 (.o (.c (.h 35)))::.sl 64 (.o (.c (.h 14)))::.sl 65 (.o (.c (.h 19)))::.sl 66 (.o (.c (.h 35)))::.sl 67 (.o (.c (.h 36)))::.sl 68 (.o (.c (.h 19)))::.sl 69 (.o (.c (.h 35)))::.sl 70 (.o (.c (.h 37)))::.sl 71 (.o (.c (.h 14)))::.sl 72 (.o (.c (.h 38)))::.sl 73 (.o (.c (.h 19)))::.sl 74 (.o (.c (.h 35)))::.sl 75 (.o (.c (.h 39)))::.sl 76 (.o (.c (.h 40)))::.sl 77 (.o (.c (.h 19)))::.sl 78 (.o (.c (.h 41)))::.sl 79 (.o (.c (.h 19)))::.sl 80 (.o (.c (.h 42)))::.sl 81 (.o (.c (.h 19)))::.sl 82 (.o (.c (.h 35)))::.sl 83 (.o (.c (.h 43)))::.sl 84 (.o (.c (.h 44)))::.sl 85 (.o (.c (.h 19)))::.sl 86 (.o (.c (.h 35)))::.sl 87 (.o (.c (.h 45)))::.sl 88 (.o (.c (.h 46)))::.sl 89 (.o (.c (.h 47)))::.sl 90 (.o (.c (.h 48)))::.sl 91 (.o (.c (.h 68)))::.bx 0 28 [.h 8,.h 9,.h 10,.h 11]::.bx 15 28 [.h 15,.h 16,.h 17,.h 18]::.bx 25 28 [.h 20,.h 21,.h 22,.h 23]::[]:List Atom)) (C:=((10026,.fb 26 false) ::
  (10029,.fb 29 false) ::
  (10030,.fb 30 false) ::
  (10032,.fb 32 false) ::
  (1005000,.bin .lss 3 (LF (.h 49)) (LF (.h 48)) (LF (.h 50))) ::
  (10050,.fb 50 true) ::
  (1005001,.op (.ia 46) [LF (.h 47),LF (.h 49)] [] (LF (.h 51))) ::
  (1005002,.op (.ld 9) [LF (.h 51)] [] (LF (.h 52))) ::
  (1005005,.call ⟨28,[.o (.c (.h 52))],[],.t [.g [.h 53,.h 54,.h 55,.h 56],.c (.h 57)],[]⟩) ::
  (1005013,.call ⟨31,[.o (.c (.h 52))],[],.t [.g [.h 58,.h 59,.h 60,.h 61],.c (.h 62)],[]⟩) ::
  (1005022,.bin .neq 4 (LF (.h 57)) (LF (.h 62)) (LF (.h 63))) ::
  (10063,.fb 63 false) ::
  (1005026,.call ⟨17,[.o (.g [.h 53,.h 54,.h 55,.h 56]),.o (.g [.h 58,.h 59,.h 60,.h 61])],[],.o (.c (.h 64)),[]⟩) ::
  (1005027,.un .not (LF (.h 64)) (LF (.h 65))) ::
  (10065,.fb 65 false) ::
  (10057,.fb 57 true) ::
  (1005033,.call ⟨27,[.o (.g [.h 53,.h 54,.h 55,.h 56])],[],.o (.c (.h 66)),[]⟩) ::
  (1005035,.bin .neq 9 (LF (.h 66)) (LF (.h 52)) (LF (.h 67))) ::
  (10067,.fb 67 false) ::
  (1005038,.bin .add 3 (LF (.h 49)) (LF (.k (.int .i64 1))) (LF (.h 68))) ::
  []:List (Nat×Ent))) (H:=.no) 5000 (zipA.imp ⟨z_c (fun _ _ _ h=>h),z_g ⟨fun _ _ _ h=>h,fun _ _ _ h=>h,fun _ _ _ h=>h,fun _ _ _ h=>h,trivial⟩,z_c (fun _ _ _ h=>h),z_c (fun _ _ _ h=>h),z_c (fun _ _ _ h=>h),z_c (fun _ _ _ h=>h),z_c (fun _ _ _ h=>h),z_c (fun _ _ _ h=>h),z_c (fun _ _ _ h=>h),z_c (fun _ _ _ h=>h),z_c (fun _ _ _ h=>h),z_c (fun _ _ _ h=>h),z_g ⟨fun _ _ _ h=>h,fun _ _ _ h=>h,fun _ _ _ h=>h,fun _ _ _ h=>h,trivial⟩,z_g ⟨fun _ _ _ h=>h,fun _ _ _ h=>h,fun _ _ _ h=>h,fun _ _ _ h=>h,trivial⟩,z_c (fun _ _ _ h=>h),z_c (fun _ _ _ h=>h),z_c (fun _ _ _ h=>h),z_c (fun _ _ _ h=>h),z_c (fun _ _ _ h=>h),z_c (fun _ _ _ h=>h),z_g ⟨fun _ _ _ h=>h,fun _ _ _ h=>h,fun _ _ _ h=>h,fun _ _ _ h=>h,trivial⟩,z_g ⟨fun _ _ _ h=>h,fun _ _ _ h=>h,fun _ _ _ h=>h,fun _ _ _ h=>h,trivial⟩,z_c (fun _ _ _ h=>h),z_c (fun _ _ _ h=>h),z_g ⟨fun _ _ _ h=>h,fun _ _ _ h=>h,fun _ _ _ h=>h,fun _ _ _ h=>h,trivial⟩,z_c (fun _ _ _ h=>h),z_c (fun _ _ _ h=>h),z_g ⟨fun _ _ _ h=>h,fun _ _ _ h=>h,fun _ _ _ h=>h,fun _ _ _ h=>h,trivial⟩,z_c (fun _ _ _ h=>h),z_c (fun _ _ _ h=>h),z_c (fun _ _ _ h=>h),z_g ⟨fun _ _ _ h=>h,fun _ _ _ h=>h,fun _ _ _ h=>h,fun _ _ _ h=>h,trivial⟩,z_c (fun _ _ _ h=>h),z_g ⟨fun _ _ _ h=>h,fun _ _ _ h=>h,fun _ _ _ h=>h,fun _ _ _ h=>h,trivial⟩,z_c (fun _ _ _ h=>h),z_c (fun _ _ _ h=>h),z_c (fun _ _ _ h=>h),z_c (fun _ _ _ h=>h),z_c (fun _ _ _ h=>h),z_c (fun _ _ _ h=>h),z_c (fun _ _ _ h=>h),z_c (fun _ _ _ h=>h),z_g ⟨fun _ _ _ h=>h,fun _ _ _ h=>h,fun _ _ _ h=>h,fun _ _ _ h=>h,trivial⟩,z_g ⟨fun _ _ _ h=>h,fun _ _ _ h=>h,fun _ _ _ h=>h,fun _ _ _ h=>h,trivial⟩,z_c (fun _ _ _ h=>h),z_c (fun _ _ _ h=>h),z_c (fun _ _ _ h=>h),z_c (fun _ _ _ h=>h),z_c (fun _ _ _ h=>h),z_c (fun _ _ _ h=>h),z_c (fun _ _ _ h=>h),z_c (fun _ _ _ h=>h),z_c (fun _ _ _ h=>h),z_c (fun _ _ _ h=>h),z_c (fun _ _ _ h=>h),z_c (fun _ _ _ h=>h),z_c (fun _ _ _ h=>h),z_c (fun _ _ _ h=>h),z_c (fun _ _ _ h=>h),z_c (fun _ _ _ h=>h),z_c (fun _ _ _ h=>h),z_c (fun _ _ _ h=>h),z_c (fun _ _ _ h=>h),z_c (fun _ _ _ h=>h),z_c (fun _ _ _ h=>h),z_c (fun _ _ _ h=>h),z_c (fun _ _ _ h=>h),z_c (fun _ _ _ h=>h),z_c (fun _ _ _ h=>h),z_c (fun _ _ _ h=>h),z_c (fun _ _ _ h=>h),z_c (fun _ _ _ h=>h),z_c (fun _ _ _ h=>h),z_c (fun _ _ _ h=>h),z_c (fun _ _ _ h=>h),z_c (fun _ _ _ h=>h),z_c (fun _ _ _ h=>h),z_c (fun _ _ _ h=>h),z_c (fun _ _ _ h=>h),z_c (fun _ _ _ h=>h),z_b ⟨fun _ _ _ h=>h,fun _ _ _ h=>h,fun _ _ _ h=>h,fun _ _ _ h=>h,trivial⟩,z_b ⟨fun _ _ _ h=>h,fun _ _ _ h=>h,fun _ _ _ h=>h,fun _ _ _ h=>h,trivial⟩,z_b ⟨fun _ _ _ h=>h,fun _ _ _ h=>h,fun _ _ _ h=>h,fun _ _ _ h=>h,trivial⟩,trivial⟩) (zm ⟨(zC zE),za rfl,ze,za rfl,ze,za rfl,za rfl,za rfl,za rfl,ze,za rfl,ze,za rfl,za rfl,za rfl,za rfl,ze,za rfl,ze,za rfl,za rfl,ze,za rfl,ze,za rfl,za rfl,za rfl,za rfl,za rfl,za rfl,za rfl,za rfl,za rfl,za rfl,za rfl,za rfl,za rfl,za rfl,za rfl,za rfl,za rfl,za rfl,za rfl,za rfl,za rfl,za rfl,za rfl,(zC zep),za rfl,za rfl,za rfl,(zeM (zep _)),za rfl,za rfl,ze,za rfl,ze,za rfl,za rfl,ze,za rfl,ze,za rfl,za rfl,za rfl,za rfl,za rfl,za rfl,za rfl,trivial⟩) ⟨e_fb (show pV (.bool v15)=_ by rw [h16]),
  e_fb (show pV (.bool v19)=_ by rw [h20]),
  e_fb (show pV (.bool v21)=_ by rw [h22]),
  e_fb (show pV (.bool v24)=_ by rw [h25]),
  e_bin (zb rfl) (zb rfl) (zb rfl) (r_cmp (congrArg some e501)),
  e_fb (show pV (.bool v501)=_ by rw [h502]),
  e_iaL (E:=9) (z:=1) (fun _=>rfl) (by kernel_rfl) (by kernel_rfl) (zd rfl) (zb rfl) s505 s506 (zd rfl),
  e_ldP (by kernel_rfl) (zd rfl) (zd rfl),
  zc (zc9 hM hTS x504 v507 v508 e507 e508 s509) rfl rfl rfl rfl,
  zc (zfD x504 v510 v511 e510 e511 s512) rfl rfl rfl rfl,
  e_bin (zb rfl) (zb rfl) (zb rfl) (fun W X Y=>by rw [← e513];exact r_bne (by kernel_rfl) W X Y),
  e_fb (show pV (.bool v513)=_ by rw [h514]),
  zc (zY v507 v510 v515 e515) rfl rfl rfl rfl,
  e_un (zb rfl) (zb rfl) (fun W=>by rw [← e516];exact r_not W),
  e_fb (show pV (.bool v516)=_ by rw [h517]),
  e_fb (show pV (.bool v508)=_ by rw [h518]),
  zc (zcn (fun W h=>(hTS W h).1) v507 v519 e519) rfl rfl rfl rfl,
  e_bin (zb rfl) (zb rfl) (zb rfl) (fun W X Y=>by rw [← e520];exact r_sne W X Y),
  e_fb (show pV (.bool v520)=_ by rw [h521]),
  e_bin (zb rfl) zg (zb rfl) (r_ar (congrArg some e522)),
  trivial⟩ mixed hR trivial (fun _ _ _ hs=>by cases hs) (by kernel_rfl:q7 (KN w0) Tryz.prog _ .no ⟨ntOf Tryz.prog 6,[],[]⟩ (lp Tryz.prog 6 0) 5000 zbu .n (.sl 0 (.o (.c (.h 0)))::.sl 1 (.o (.g [.h 1,.h 2,.h 3,.h 4]))::.sl 2 (.o (.c (.h 14)))::.sl 3 (.o (.c (.h 6)))::.sl 5 (.o (.c (.p 0 0)))::.sl 9 (.o (.c (.h 7)))::.sl 10 (.o (.c (.p 15 0)))::.sl 11 (.o (.c (.h 19)))::.sl 12 (.o (.c (.p 25 0)))::.sl 13 (.o (.c (.h 24)))::.sl 14 (.o (.c (.h 35)))::.sl 21 (.o (.c (.h 7)))::.sl 22 (.o (.g [.h 1,.h 2,.h 3,.h 4]))::.sl 23 (.o (.g [.h 8,.h 9,.h 10,.h 11]))::.sl 24 (.o (.c (.h 5)))::.sl 25 (.o (.c (.h 5)))::.sl 26 (.o (.c (.h 12)))::.sl 27 (.o (.c (.h 13)))::.sl 28 (.o (.c (.h 14)))::.sl 29 (.o (.c (.h 0)))::.sl 30 (.o (.g [.h 15,.h 16,.h 17,.h 18]))::.sl 31 (.o (.g [.h 15,.h 16,.h 17,.h 18]))::.sl 32 (.o (.c (.h 19)))::.sl 34 (.o (.c (.h 19)))::.sl 36 (.o (.g [.h 20,.h 21,.h 22,.h 23]))::.sl 37 (.o (.c (.h 24)))::.sl 38 (.o (.c (.h 19)))::.sl 39 (.o (.g [.h 15,.h 16,.h 17,.h 18]))::.sl 40 (.o (.c (.h 25)))::.sl 41 (.o (.c (.h 26)))::.sl 42 (.o (.c (.h 26)))::.sl 43 (.o (.g [.h 8,.h 9,.h 10,.h 11]))::.sl 44 (.o (.c (.h 27)))::.sl 45 (.o (.g [.h 8,.h 9,.h 10,.h 11]))::.sl 46 (.o (.c (.h 28)))::.sl 47 (.o (.c (.h 29)))::.sl 48 (.o (.c (.h 29)))::.sl 49 (.o (.c (.h 29)))::.sl 50 (.o (.c (.h 24)))::.sl 51 (.o (.c (.h 30)))::.sl 52 (.o (.c (.h 30)))::.sl 53 (.o (.c (.h 30)))::.sl 54 (.o (.g [.h 15,.h 16,.h 17,.h 18]))::.sl 55 (.o (.g [.h 20,.h 21,.h 22,.h 23]))::.sl 56 (.o (.c (.h 31)))::.sl 57 (.o (.c (.h 32)))::.sl 58 (.o (.c (.h 32)))::.sl 59 (.o (.c (.h 6)))::.sl 60 (.o (.c (.h 19)))::.sl 61 (.o (.c (.h 33)))::.sl 62 (.o (.c (.h 34)))::.sl 63 (.o (.c (.h 35)))::.sl 64 (.o (.c (.h 14)))::.sl 65 (.o (.c (.h 19)))::.sl 66 (.o (.c (.h 35)))::.sl 67 (.o (.c (.h 36)))::.sl 68 (.o (.c (.h 19)))::.sl 69 (.o (.c (.h 35)))::.sl 70 (.o (.c (.h 37)))::.sl 71 (.o (.c (.h 14)))::.sl 72 (.o (.c (.h 38)))::.sl 73 (.o (.c (.h 19)))::.sl 74 (.o (.c (.h 35)))::.sl 75 (.o (.c (.h 39)))::.sl 76 (.o (.c (.h 40)))::.sl 77 (.o (.c (.h 19)))::.sl 78 (.o (.c (.h 41)))::.sl 79 (.o (.c (.h 19)))::.sl 80 (.o (.c (.h 42)))::.sl 81 (.o (.c (.h 19)))::.sl 82 (.o (.c (.h 35)))::.sl 83 (.o (.c (.h 43)))::.sl 84 (.o (.c (.h 44)))::.sl 85 (.o (.c (.h 19)))::.sl 86 (.o (.c (.h 35)))::.sl 87 (.o (.c (.h 45)))::.sl 88 (.o (.c (.h 46)))::.sl 89 (.o (.c (.h 47)))::.sl 90 (.o (.c (.h 48)))::.sl 91 (.o (.c (.h 68)))::.bx 0 28 [.h 8,.h 9,.h 10,.h 11]::.bx 15 28 [.h 15,.h 16,.h 17,.h 18]::.bx 25 28 [.h 20,.h 21,.h 22,.h 23]::[]:List Atom)=true) rfl (zipA.imp ⟨z_c (fun _ _ _ h=>h),z_g ⟨fun _ _ _ h=>h,fun _ _ _ h=>h,fun _ _ _ h=>h,fun _ _ _ h=>h,trivial⟩,z_c (fun _ _ _ h=>h),z_c (fun _ _ _ h=>h),z_c (fun _ _ _ h=>h),z_c (fun _ _ _ h=>h),z_c (fun _ _ _ h=>h),z_c (fun _ _ _ h=>h),z_c (fun _ _ _ h=>h),z_c (fun _ _ _ h=>h),z_c (fun _ _ _ h=>h),z_c (fun _ _ _ h=>h),z_g ⟨fun _ _ _ h=>h,fun _ _ _ h=>h,fun _ _ _ h=>h,fun _ _ _ h=>h,trivial⟩,z_g ⟨fun _ _ _ h=>h,fun _ _ _ h=>h,fun _ _ _ h=>h,fun _ _ _ h=>h,trivial⟩,z_c (fun _ _ _ h=>h),z_c (fun _ _ _ h=>h),z_c (fun _ _ _ h=>h),z_c (fun _ _ _ h=>h),z_c (fun _ _ _ h=>h),z_c (fun _ _ _ h=>h),z_g ⟨fun _ _ _ h=>h,fun _ _ _ h=>h,fun _ _ _ h=>h,fun _ _ _ h=>h,trivial⟩,z_g ⟨fun _ _ _ h=>h,fun _ _ _ h=>h,fun _ _ _ h=>h,fun _ _ _ h=>h,trivial⟩,z_c (fun _ _ _ h=>h),z_c (fun _ _ _ h=>h),z_g ⟨fun _ _ _ h=>h,fun _ _ _ h=>h,fun _ _ _ h=>h,fun _ _ _ h=>h,trivial⟩,z_c (fun _ _ _ h=>h),z_c (fun _ _ _ h=>h),z_g ⟨fun _ _ _ h=>h,fun _ _ _ h=>h,fun _ _ _ h=>h,fun _ _ _ h=>h,trivial⟩,z_c (fun _ _ _ h=>h),z_c (fun _ _ _ h=>h),z_c (fun _ _ _ h=>h),z_g ⟨fun _ _ _ h=>h,fun _ _ _ h=>h,fun _ _ _ h=>h,fun _ _ _ h=>h,trivial⟩,z_c (fun _ _ _ h=>h),z_g ⟨fun _ _ _ h=>h,fun _ _ _ h=>h,fun _ _ _ h=>h,fun _ _ _ h=>h,trivial⟩,z_c (fun _ _ _ h=>h),z_c (fun _ _ _ h=>h),z_c (fun _ _ _ h=>h),z_c (fun _ _ _ h=>h),z_c (fun _ _ _ h=>h),z_c (fun _ _ _ h=>h),z_c (fun _ _ _ h=>h),z_c (fun _ _ _ h=>h),z_g ⟨fun _ _ _ h=>h,fun _ _ _ h=>h,fun _ _ _ h=>h,fun _ _ _ h=>h,trivial⟩,z_g ⟨fun _ _ _ h=>h,fun _ _ _ h=>h,fun _ _ _ h=>h,fun _ _ _ h=>h,trivial⟩,z_c (fun _ _ _ h=>h),z_c (fun _ _ _ h=>h),z_c (fun _ _ _ h=>h),z_c (fun _ _ _ h=>h),z_c (fun _ _ _ h=>h),z_c (fun _ _ _ h=>h),z_c (fun _ _ _ h=>h),z_c (fun _ _ _ h=>h),z_c (fun _ _ _ h=>h),z_c (fun _ _ _ h=>h),z_c (fun _ _ _ h=>h),z_c (fun _ _ _ h=>h),z_c (fun _ _ _ h=>h),z_c (fun _ _ _ h=>h),z_c (fun _ _ _ h=>h),z_c (fun _ _ _ h=>h),z_c (fun _ _ _ h=>h),z_c (fun _ _ _ h=>h),z_c (fun _ _ _ h=>h),z_c (fun _ _ _ h=>h),z_c (fun _ _ _ h=>h),z_c (fun _ _ _ h=>h),z_c (fun _ _ _ h=>h),z_c (fun _ _ _ h=>h),z_c (fun _ _ _ h=>h),z_c (fun _ _ _ h=>h),z_c (fun _ _ _ h=>h),z_c (fun _ _ _ h=>h),z_c (fun _ _ _ h=>h),z_c (fun _ _ _ h=>h),z_c (fun _ _ _ h=>h),z_c (fun _ _ _ h=>h),z_c (fun _ _ _ h=>h),z_c (fun _ _ _ h=>h),z_c (fun _ _ _ h=>h),z_c (fun β v W h=>(zd rfl β v W).2 (by rw [← q0];exact h)),z_b ⟨fun _ _ _ h=>h,fun _ _ _ h=>h,fun _ _ _ h=>h,fun _ _ _ h=>h,trivial⟩,z_b ⟨fun _ _ _ h=>h,fun _ _ _ h=>h,fun _ _ _ h=>h,fun _ _ _ h=>h,trivial⟩,z_b ⟨fun _ _ _ h=>h,fun _ _ _ h=>h,fun _ _ _ h=>h,fun _ _ _ h=>h,trivial⟩,trivial⟩)
theorem zw9 {w0:World} (hM:∀W,Below w0.heap.size w0 W→MaxT W) (hTS:∀W,Below w0.heap.size w0 W→PowT w0.heap.size W∧SynT w0.heap.size W) (l:(List Int)) (raw:RR) (s:(List UInt8)) (pl:Int) (v1:Bool) (v2:RR) (v3:Int) (v4:Int) (n5:Nat) (v7:(List UInt8)) (v9:RR) (v10:(List UInt8)) (v11:RR) (v12:Bool) (v14:(List UInt8)) (v15:Bool) (v17:(List UInt8)) (v18:(List UInt8)) (v19:Bool) (v21:Bool) (v23:Bool) (v24:Bool) (v26:Int) (v27:Int) (v28:Int) (n29:Nat) (v31:(List UInt8)) (n33:Nat) (v35:(List UInt8)) (v37:(List UInt8)) (n39:Nat) (v41:(List UInt8)) (v43:(List UInt8)) (v45:(List UInt8)) (v47:(List UInt8)) (n49:Nat) (v51:(List UInt8)) (v53:(List UInt8)) (n55:Nat) (v57:(List UInt8)) (v59:(List UInt8)) (v61:(List (List UInt8))) (v62:Int) (h16:v15=false) (h20:v19=false) (h22:v21=false) (h25:v24=false) (i:Int) (v501:Bool) (n503:Nat) (x504:(List UInt8)) (v507:RR) (v508:Bool) (v510:RR) (v511:Bool) (v513:Bool) (v515:Bool) (v516:Bool) (v519:Int) (e501:(decide (i<v62))=v501) (e507:(parR x504)=v507) (e508:(okP x504)=v508) (e510:(parR x504)=v510) (e511:(okP x504)=v511) (e513:(!(v508 == v511))=v513) (e515:(decide (v507=v510))=v515) (e516:(!v515)=v516) (e519:(IntKind.i64.wrap (i+(1:Int)))=v519) (h502:v501=true) (s505:i=(n503:Int)) (s506:v61[n503]?=some x504) (s509:(x504:List UInt8).length<4294967281) (s512:(x504:List UInt8).length≤1000) (h514:v513=false) (h517:v516=false) (h518:v508=false) (i':Int) (q0:(v519)=i') (R:Frm) (hR:R.pm=⟨ntOf Tryz.prog 6,[],[]⟩):Goes (KN w0) Tryz.prog R (lp Tryz.prog 6 0) (FL [pLs cI l,pB raw.1.1,pD raw.1.2,pB raw.2.1,pD raw.2.2,pS s,pI pl,pB v1,pB v2.1.1,pD v2.1.2,pB v2.2.1,pD v2.2.2,pI v3,pI v4,pS v7,pB v9.1.1,pD v9.1.2,pB v9.2.1,pD v9.2.2,pS v10,pB v11.1.1,pD v11.1.2,pB v11.2.1,pD v11.2.2,pB v12,pS v14,pB v15,pS v17,pS v18,pB v19,pB v21,pB v23,pB v24,pI v26,pI v27,pI v28,pS v31,pS v35,pS v37,pS v41,pS v43,pS v45,pS v47,pS v51,pS v53,pS v57,pS v59,pLs cS v61,pI v62,pI i] []) zbu .n (FL [pLs cI l,pB raw.1.1,pD raw.1.2,pB raw.2.1,pD raw.2.2,pS s,pI pl,pB v1,pB v2.1.1,pD v2.1.2,pB v2.2.1,pD v2.2.2,pI v3,pI v4,pS v7,pB v9.1.1,pD v9.1.2,pB v9.2.1,pD v9.2.2,pS v10,pB v11.1.1,pD v11.1.2,pB v11.2.1,pD v11.2.2,pB v12,pS v14,pB v15,pS v17,pS v18,pB v19,pB v21,pB v23,pB v24,pI v26,pI v27,pI v28,pS v31,pS v35,pS v37,pS v41,pS v43,pS v45,pS v47,pS v51,pS v53,pS v57,pS v59,pLs cS v61,pI v62,pI i'] []) zbu:=
 goes (x:=.n) (y:=.n) (Fb:=FL (pLs cI l::pB raw.1.1::pD raw.1.2::pB raw.2.1::pD raw.2.2::pS s::pI pl::pB v1::pB v2.1.1::pD v2.1.2::pB v2.2.1::pD v2.2.2::pI v3::pI v4::pS v7::pB v9.1.1::pD v9.1.2::pB v9.2.1::pD v9.2.2::pS v10::pB v11.1.1::pD v11.1.2::pB v11.2.1::pD v11.2.2::pB v12::pS v14::pB v15::pS v17::pS v18::pB v19::pB v21::pB v23::pB v24::pI v26::pI v27::pI v28::pS v31::pS v35::pS v37::pS v41::pS v43::pS v45::pS v47::pS v51::pS v53::pS v57::pS v59::pLs cS v61::pI v62::pI i::pB v501::pP (cS x504)::pS x504::pB v507.1.1::pD v507.1.2::pB v507.2.1::pD v507.2.2::pB v508::pB v510.1.1::pD v510.1.2::pB v510.2.1::pD v510.2.2::pB v511::pB v513::pB v515::pB v516::pI v519::[]) []) (stb:=zbu) (tl:=(.sl 0 (.o (.c (.h 0)))::.sl 1 (.o (.g [.h 1,.h 2,.h 3,.h 4]))::.sl 2 (.o (.c (.h 14)))::.sl 3 (.o (.c (.h 6)))::.sl 5 (.o (.c (.p 0 0)))::.sl 9 (.o (.c (.h 7)))::.sl 10 (.o (.c (.p 15 0)))::.sl 11 (.o (.c (.h 19)))::.sl 12 (.o (.c (.p 25 0)))::.sl 13 (.o (.c (.h 24)))::.sl 14 (.o (.c (.h 35)))::.sl 21 (.o (.c (.h 7)))::.sl 22 (.o (.g [.h 1,.h 2,.h 3,.h 4]))::.sl 23 (.o (.g [.h 8,.h 9,.h 10,.h 11]))::.sl 24 (.o (.c (.h 5)))::.sl 25 (.o (.c (.h 5)))::.sl 26 (.o (.c (.h 12)))::.sl 27 (.o (.c (.h 13)))::.sl 28 (.o (.c (.h 14)))::.sl 29 (.o (.c (.h 0)))::.sl 30 (.o (.g [.h 15,.h 16,.h 17,.h 18]))::.sl 31 (.o (.g [.h 15,.h 16,.h 17,.h 18]))::.sl 32 (.o (.c (.h 19)))::.sl 34 (.o (.c (.h 19)))::.sl 36 (.o (.g [.h 20,.h 21,.h 22,.h 23]))::.sl 37 (.o (.c (.h 24)))::.sl 38 (.o (.c (.h 19)))::.sl 39 (.o (.g [.h 15,.h 16,.h 17,.h 18]))::.sl 40 (.o (.c (.h 25)))::.sl 41 (.o (.c (.h 26)))::.sl 42 (.o (.c (.h 26)))::.sl 43 (.o (.g [.h 8,.h 9,.h 10,.h 11]))::.sl 44 (.o (.c (.h 27)))::.sl 45 (.o (.g [.h 8,.h 9,.h 10,.h 11]))::.sl 46 (.o (.c (.h 28)))::.sl 47 (.o (.c (.h 29)))::.sl 48 (.o (.c (.h 29)))::.sl 49 (.o (.c (.h 29)))::.sl 50 (.o (.c (.h 24)))::.sl 51 (.o (.c (.h 30)))::.sl 52 (.o (.c (.h 30)))::.sl 53 (.o (.c (.h 30)))::.sl 54 (.o (.g [.h 15,.h 16,.h 17,.h 18]))::.sl 55 (.o (.g [.h 20,.h 21,.h 22,.h 23]))::.sl 56 (.o (.c (.h 31)))::.sl 57 (.o (.c (.h 32)))::.sl 58 (.o (.c (.h 32)))::.sl 59 (.o (.c (.h 6)))::.sl 60 (.o (.c (.h 19)))::.sl 61 (.o (.c (.h 33)))::.sl 62 (.o (.c (.h 34)))::.sl 63 (.o (.c (.h 35)))::.sl 64 (.o (.c (.h 14)))::.sl 65 (.o (.c (.h 19)))::.sl 66 (.o (.c (.h 35)))::.sl 67 (.o (.c (.h 36)))::.sl 68 (.o (.c (.h 19)))::.sl 69 (.o (.c (.h 35)))::.sl 70 (.o (.c (.h 37)))::.sl 71 (.o (.c (.h 14)))::.sl 72 (.o (.c (.h 38)))::.sl 73 (.o (.c (.h 19)))::.sl 74 (.o (.c (.h 35)))::.sl 75 (.o (.c (.h 39)))::.sl 76 (.o (.c (.h 40)))::.sl 77 (.o (.c (.h 19)))::.sl 78 (.o (.c (.h 41)))::.sl 79 (.o (.c (.h 19)))::.sl 80 (.o (.c (.h 42)))::.sl 81 (.o (.c (.h 19)))::.sl 82 (.o (.c (.h 35)))::.sl 83 (.o (.c (.h 43)))::.sl 84 (.o (.c (.h 44)))::.sl 85 (.o (.c (.h 19)))::.sl 86 (.o (.c (.h 35)))::.sl 87 (.o (.c (.h 45)))::.sl 88 (.o (.c (.h 46)))::.sl 89 (.o (.c (.h 47)))::.sl 90 (.o (.c (.h 48)))::.sl 91 (.o (.c (.h 66)))::.bx 0 28 [.h 8,.h 9,.h 10,.h 11]::.bx 15 28 [.h 15,.h 16,.h 17,.h 18]::.bx 25 28 [.h 20,.h 21,.h 22,.h 23]::[]:List Atom)) (C:=((10026,.fb 26 false) ::
  (10029,.fb 29 false) ::
  (10030,.fb 30 false) ::
  (10032,.fb 32 false) ::
  (1005000,.bin .lss 3 (LF (.h 49)) (LF (.h 48)) (LF (.h 50))) ::
  (10050,.fb 50 true) ::
  (1005001,.op (.ia 46) [LF (.h 47),LF (.h 49)] [] (LF (.h 51))) ::
  (1005002,.op (.ld 9) [LF (.h 51)] [] (LF (.h 52))) ::
  (1005005,.call ⟨28,[.o (.c (.h 52))],[],.t [.g [.h 53,.h 54,.h 55,.h 56],.c (.h 57)],[]⟩) ::
  (1005013,.call ⟨31,[.o (.c (.h 52))],[],.t [.g [.h 58,.h 59,.h 60,.h 61],.c (.h 62)],[]⟩) ::
  (1005022,.bin .neq 4 (LF (.h 57)) (LF (.h 62)) (LF (.h 63))) ::
  (10063,.fb 63 false) ::
  (1005026,.call ⟨17,[.o (.g [.h 53,.h 54,.h 55,.h 56]),.o (.g [.h 58,.h 59,.h 60,.h 61])],[],.o (.c (.h 64)),[]⟩) ::
  (1005027,.un .not (LF (.h 64)) (LF (.h 65))) ::
  (10065,.fb 65 false) ::
  (10057,.fb 57 false) ::
  (1005038,.bin .add 3 (LF (.h 49)) (LF (.k (.int .i64 1))) (LF (.h 66))) ::
  []:List (Nat×Ent))) (H:=.no) 5000 (zipA.imp ⟨z_c (fun _ _ _ h=>h),z_g ⟨fun _ _ _ h=>h,fun _ _ _ h=>h,fun _ _ _ h=>h,fun _ _ _ h=>h,trivial⟩,z_c (fun _ _ _ h=>h),z_c (fun _ _ _ h=>h),z_c (fun _ _ _ h=>h),z_c (fun _ _ _ h=>h),z_c (fun _ _ _ h=>h),z_c (fun _ _ _ h=>h),z_c (fun _ _ _ h=>h),z_c (fun _ _ _ h=>h),z_c (fun _ _ _ h=>h),z_c (fun _ _ _ h=>h),z_g ⟨fun _ _ _ h=>h,fun _ _ _ h=>h,fun _ _ _ h=>h,fun _ _ _ h=>h,trivial⟩,z_g ⟨fun _ _ _ h=>h,fun _ _ _ h=>h,fun _ _ _ h=>h,fun _ _ _ h=>h,trivial⟩,z_c (fun _ _ _ h=>h),z_c (fun _ _ _ h=>h),z_c (fun _ _ _ h=>h),z_c (fun _ _ _ h=>h),z_c (fun _ _ _ h=>h),z_c (fun _ _ _ h=>h),z_g ⟨fun _ _ _ h=>h,fun _ _ _ h=>h,fun _ _ _ h=>h,fun _ _ _ h=>h,trivial⟩,z_g ⟨fun _ _ _ h=>h,fun _ _ _ h=>h,fun _ _ _ h=>h,fun _ _ _ h=>h,trivial⟩,z_c (fun _ _ _ h=>h),z_c (fun _ _ _ h=>h),z_g ⟨fun _ _ _ h=>h,fun _ _ _ h=>h,fun _ _ _ h=>h,fun _ _ _ h=>h,trivial⟩,z_c (fun _ _ _ h=>h),z_c (fun _ _ _ h=>h),z_g ⟨fun _ _ _ h=>h,fun _ _ _ h=>h,fun _ _ _ h=>h,fun _ _ _ h=>h,trivial⟩,z_c (fun _ _ _ h=>h),z_c (fun _ _ _ h=>h),z_c (fun _ _ _ h=>h),z_g ⟨fun _ _ _ h=>h,fun _ _ _ h=>h,fun _ _ _ h=>h,fun _ _ _ h=>h,trivial⟩,z_c (fun _ _ _ h=>h),z_g ⟨fun _ _ _ h=>h,fun _ _ _ h=>h,fun _ _ _ h=>h,fun _ _ _ h=>h,trivial⟩,z_c (fun _ _ _ h=>h),z_c (fun _ _ _ h=>h),z_c (fun _ _ _ h=>h),z_c (fun _ _ _ h=>h),z_c (fun _ _ _ h=>h),z_c (fun _ _ _ h=>h),z_c (fun _ _ _ h=>h),z_c (fun _ _ _ h=>h),z_g ⟨fun _ _ _ h=>h,fun _ _ _ h=>h,fun _ _ _ h=>h,fun _ _ _ h=>h,trivial⟩,z_g ⟨fun _ _ _ h=>h,fun _ _ _ h=>h,fun _ _ _ h=>h,fun _ _ _ h=>h,trivial⟩,z_c (fun _ _ _ h=>h),z_c (fun _ _ _ h=>h),z_c (fun _ _ _ h=>h),z_c (fun _ _ _ h=>h),z_c (fun _ _ _ h=>h),z_c (fun _ _ _ h=>h),z_c (fun _ _ _ h=>h),z_c (fun _ _ _ h=>h),z_c (fun _ _ _ h=>h),z_c (fun _ _ _ h=>h),z_c (fun _ _ _ h=>h),z_c (fun _ _ _ h=>h),z_c (fun _ _ _ h=>h),z_c (fun _ _ _ h=>h),z_c (fun _ _ _ h=>h),z_c (fun _ _ _ h=>h),z_c (fun _ _ _ h=>h),z_c (fun _ _ _ h=>h),z_c (fun _ _ _ h=>h),z_c (fun _ _ _ h=>h),z_c (fun _ _ _ h=>h),z_c (fun _ _ _ h=>h),z_c (fun _ _ _ h=>h),z_c (fun _ _ _ h=>h),z_c (fun _ _ _ h=>h),z_c (fun _ _ _ h=>h),z_c (fun _ _ _ h=>h),z_c (fun _ _ _ h=>h),z_c (fun _ _ _ h=>h),z_c (fun _ _ _ h=>h),z_c (fun _ _ _ h=>h),z_c (fun _ _ _ h=>h),z_c (fun _ _ _ h=>h),z_c (fun _ _ _ h=>h),z_c (fun _ _ _ h=>h),z_c (fun _ _ _ h=>h),z_b ⟨fun _ _ _ h=>h,fun _ _ _ h=>h,fun _ _ _ h=>h,fun _ _ _ h=>h,trivial⟩,z_b ⟨fun _ _ _ h=>h,fun _ _ _ h=>h,fun _ _ _ h=>h,fun _ _ _ h=>h,trivial⟩,z_b ⟨fun _ _ _ h=>h,fun _ _ _ h=>h,fun _ _ _ h=>h,fun _ _ _ h=>h,trivial⟩,trivial⟩) (zm ⟨(zC zE),za rfl,ze,za rfl,ze,za rfl,za rfl,za rfl,za rfl,ze,za rfl,ze,za rfl,za rfl,za rfl,za rfl,ze,za rfl,ze,za rfl,za rfl,ze,za rfl,ze,za rfl,za rfl,za rfl,za rfl,za rfl,za rfl,za rfl,za rfl,za rfl,za rfl,za rfl,za rfl,za rfl,za rfl,za rfl,za rfl,za rfl,za rfl,za rfl,za rfl,za rfl,za rfl,za rfl,(zC zep),za rfl,za rfl,za rfl,(zeM (zep _)),za rfl,za rfl,ze,za rfl,ze,za rfl,za rfl,ze,za rfl,ze,za rfl,za rfl,za rfl,za rfl,za rfl,trivial⟩) ⟨e_fb (show pV (.bool v15)=_ by rw [h16]),
  e_fb (show pV (.bool v19)=_ by rw [h20]),
  e_fb (show pV (.bool v21)=_ by rw [h22]),
  e_fb (show pV (.bool v24)=_ by rw [h25]),
  e_bin (zb rfl) (zb rfl) (zb rfl) (r_cmp (congrArg some e501)),
  e_fb (show pV (.bool v501)=_ by rw [h502]),
  e_iaL (E:=9) (z:=1) (fun _=>rfl) (by kernel_rfl) (by kernel_rfl) (zd rfl) (zb rfl) s505 s506 (zd rfl),
  e_ldP (by kernel_rfl) (zd rfl) (zd rfl),
  zc (zc9 hM hTS x504 v507 v508 e507 e508 s509) rfl rfl rfl rfl,
  zc (zfD x504 v510 v511 e510 e511 s512) rfl rfl rfl rfl,
  e_bin (zb rfl) (zb rfl) (zb rfl) (fun W X Y=>by rw [← e513];exact r_bne (by kernel_rfl) W X Y),
  e_fb (show pV (.bool v513)=_ by rw [h514]),
  zc (zY v507 v510 v515 e515) rfl rfl rfl rfl,
  e_un (zb rfl) (zb rfl) (fun W=>by rw [← e516];exact r_not W),
  e_fb (show pV (.bool v516)=_ by rw [h517]),
  e_fb (show pV (.bool v508)=_ by rw [h518]),
  e_bin (zb rfl) zg (zb rfl) (r_ar (congrArg some e519)),
  trivial⟩ mixed hR trivial (fun _ _ _ hs=>by cases hs) (by kernel_rfl:q7 (KN w0) Tryz.prog _ .no ⟨ntOf Tryz.prog 6,[],[]⟩ (lp Tryz.prog 6 0) 5000 zbu .n (.sl 0 (.o (.c (.h 0)))::.sl 1 (.o (.g [.h 1,.h 2,.h 3,.h 4]))::.sl 2 (.o (.c (.h 14)))::.sl 3 (.o (.c (.h 6)))::.sl 5 (.o (.c (.p 0 0)))::.sl 9 (.o (.c (.h 7)))::.sl 10 (.o (.c (.p 15 0)))::.sl 11 (.o (.c (.h 19)))::.sl 12 (.o (.c (.p 25 0)))::.sl 13 (.o (.c (.h 24)))::.sl 14 (.o (.c (.h 35)))::.sl 21 (.o (.c (.h 7)))::.sl 22 (.o (.g [.h 1,.h 2,.h 3,.h 4]))::.sl 23 (.o (.g [.h 8,.h 9,.h 10,.h 11]))::.sl 24 (.o (.c (.h 5)))::.sl 25 (.o (.c (.h 5)))::.sl 26 (.o (.c (.h 12)))::.sl 27 (.o (.c (.h 13)))::.sl 28 (.o (.c (.h 14)))::.sl 29 (.o (.c (.h 0)))::.sl 30 (.o (.g [.h 15,.h 16,.h 17,.h 18]))::.sl 31 (.o (.g [.h 15,.h 16,.h 17,.h 18]))::.sl 32 (.o (.c (.h 19)))::.sl 34 (.o (.c (.h 19)))::.sl 36 (.o (.g [.h 20,.h 21,.h 22,.h 23]))::.sl 37 (.o (.c (.h 24)))::.sl 38 (.o (.c (.h 19)))::.sl 39 (.o (.g [.h 15,.h 16,.h 17,.h 18]))::.sl 40 (.o (.c (.h 25)))::.sl 41 (.o (.c (.h 26)))::.sl 42 (.o (.c (.h 26)))::.sl 43 (.o (.g [.h 8,.h 9,.h 10,.h 11]))::.sl 44 (.o (.c (.h 27)))::.sl 45 (.o (.g [.h 8,.h 9,.h 10,.h 11]))::.sl 46 (.o (.c (.h 28)))::.sl 47 (.o (.c (.h 29)))::.sl 48 (.o (.c (.h 29)))::.sl 49 (.o (.c (.h 29)))::.sl 50 (.o (.c (.h 24)))::.sl 51 (.o (.c (.h 30)))::.sl 52 (.o (.c (.h 30)))::.sl 53 (.o (.c (.h 30)))::.sl 54 (.o (.g [.h 15,.h 16,.h 17,.h 18]))::.sl 55 (.o (.g [.h 20,.h 21,.h 22,.h 23]))::.sl 56 (.o (.c (.h 31)))::.sl 57 (.o (.c (.h 32)))::.sl 58 (.o (.c (.h 32)))::.sl 59 (.o (.c (.h 6)))::.sl 60 (.o (.c (.h 19)))::.sl 61 (.o (.c (.h 33)))::.sl 62 (.o (.c (.h 34)))::.sl 63 (.o (.c (.h 35)))::.sl 64 (.o (.c (.h 14)))::.sl 65 (.o (.c (.h 19)))::.sl 66 (.o (.c (.h 35)))::.sl 67 (.o (.c (.h 36)))::.sl 68 (.o (.c (.h 19)))::.sl 69 (.o (.c (.h 35)))::.sl 70 (.o (.c (.h 37)))::.sl 71 (.o (.c (.h 14)))::.sl 72 (.o (.c (.h 38)))::.sl 73 (.o (.c (.h 19)))::.sl 74 (.o (.c (.h 35)))::.sl 75 (.o (.c (.h 39)))::.sl 76 (.o (.c (.h 40)))::.sl 77 (.o (.c (.h 19)))::.sl 78 (.o (.c (.h 41)))::.sl 79 (.o (.c (.h 19)))::.sl 80 (.o (.c (.h 42)))::.sl 81 (.o (.c (.h 19)))::.sl 82 (.o (.c (.h 35)))::.sl 83 (.o (.c (.h 43)))::.sl 84 (.o (.c (.h 44)))::.sl 85 (.o (.c (.h 19)))::.sl 86 (.o (.c (.h 35)))::.sl 87 (.o (.c (.h 45)))::.sl 88 (.o (.c (.h 46)))::.sl 89 (.o (.c (.h 47)))::.sl 90 (.o (.c (.h 48)))::.sl 91 (.o (.c (.h 66)))::.bx 0 28 [.h 8,.h 9,.h 10,.h 11]::.bx 15 28 [.h 15,.h 16,.h 17,.h 18]::.bx 25 28 [.h 20,.h 21,.h 22,.h 23]::[]:List Atom)=true) rfl (zipA.imp ⟨z_c (fun _ _ _ h=>h),z_g ⟨fun _ _ _ h=>h,fun _ _ _ h=>h,fun _ _ _ h=>h,fun _ _ _ h=>h,trivial⟩,z_c (fun _ _ _ h=>h),z_c (fun _ _ _ h=>h),z_c (fun _ _ _ h=>h),z_c (fun _ _ _ h=>h),z_c (fun _ _ _ h=>h),z_c (fun _ _ _ h=>h),z_c (fun _ _ _ h=>h),z_c (fun _ _ _ h=>h),z_c (fun _ _ _ h=>h),z_c (fun _ _ _ h=>h),z_g ⟨fun _ _ _ h=>h,fun _ _ _ h=>h,fun _ _ _ h=>h,fun _ _ _ h=>h,trivial⟩,z_g ⟨fun _ _ _ h=>h,fun _ _ _ h=>h,fun _ _ _ h=>h,fun _ _ _ h=>h,trivial⟩,z_c (fun _ _ _ h=>h),z_c (fun _ _ _ h=>h),z_c (fun _ _ _ h=>h),z_c (fun _ _ _ h=>h),z_c (fun _ _ _ h=>h),z_c (fun _ _ _ h=>h),z_g ⟨fun _ _ _ h=>h,fun _ _ _ h=>h,fun _ _ _ h=>h,fun _ _ _ h=>h,trivial⟩,z_g ⟨fun _ _ _ h=>h,fun _ _ _ h=>h,fun _ _ _ h=>h,fun _ _ _ h=>h,trivial⟩,z_c (fun _ _ _ h=>h),z_c (fun _ _ _ h=>h),z_g ⟨fun _ _ _ h=>h,fun _ _ _ h=>h,fun _ _ _ h=>h,fun _ _ _ h=>h,trivial⟩,z_c (fun _ _ _ h=>h),z_c (fun _ _ _ h=>h),z_g ⟨fun _ _ _ h=>h,fun _ _ _ h=>h,fun _ _ _ h=>h,fun _ _ _ h=>h,trivial⟩,z_c (fun _ _ _ h=>h),z_c (fun _ _ _ h=>h),z_c (fun _ _ _ h=>h),z_g ⟨fun _ _ _ h=>h,fun _ _ _ h=>h,fun _ _ _ h=>h,fun _ _ _ h=>h,trivial⟩,z_c (fun _ _ _ h=>h),z_g ⟨fun _ _ _ h=>h,fun _ _ _ h=>h,fun _ _ _ h=>h,fun _ _ _ h=>h,trivial⟩,z_c (fun _ _ _ h=>h),z_c (fun _ _ _ h=>h),z_c (fun _ _ _ h=>h),z_c (fun _ _ _ h=>h),z_c (fun _ _ _ h=>h),z_c (fun _ _ _ h=>h),z_c (fun _ _ _ h=>h),z_c (fun _ _ _ h=>h),z_g ⟨fun _ _ _ h=>h,fun _ _ _ h=>h,fun _ _ _ h=>h,fun _ _ _ h=>h,trivial⟩,z_g ⟨fun _ _ _ h=>h,fun _ _ _ h=>h,fun _ _ _ h=>h,fun _ _ _ h=>h,trivial⟩,z_c (fun _ _ _ h=>h),z_c (fun _ _ _ h=>h),z_c (fun _ _ _ h=>h),z_c (fun _ _ _ h=>h),z_c (fun _ _ _ h=>h),z_c (fun _ _ _ h=>h),z_c (fun _ _ _ h=>h),z_c (fun _ _ _ h=>h),z_c (fun _ _ _ h=>h),z_c (fun _ _ _ h=>h),z_c (fun _ _ _ h=>h),z_c (fun _ _ _ h=>h),z_c (fun _ _ _ h=>h),z_c (fun _ _ _ h=>h),z_c (fun _ _ _ h=>h),z_c (fun _ _ _ h=>h),z_c (fun _ _ _ h=>h),z_c (fun _ _ _ h=>h),z_c (fun _ _ _ h=>h),z_c (fun _ _ _ h=>h),z_c (fun _ _ _ h=>h),z_c (fun _ _ _ h=>h),z_c (fun _ _ _ h=>h),z_c (fun _ _ _ h=>h),z_c (fun _ _ _ h=>h),z_c (fun _ _ _ h=>h),z_c (fun _ _ _ h=>h),z_c (fun _ _ _ h=>h),z_c (fun _ _ _ h=>h),z_c (fun _ _ _ h=>h),z_c (fun _ _ _ h=>h),z_c (fun _ _ _ h=>h),z_c (fun _ _ _ h=>h),z_c (fun _ _ _ h=>h),z_c (fun _ _ _ h=>h),z_c (fun β v W h=>(zd rfl β v W).2 (by rw [← q0];exact h)),z_b ⟨fun _ _ _ h=>h,fun _ _ _ h=>h,fun _ _ _ h=>h,fun _ _ _ h=>h,trivial⟩,z_b ⟨fun _ _ _ h=>h,fun _ _ _ h=>h,fun _ _ _ h=>h,fun _ _ _ h=>h,trivial⟩,z_b ⟨fun _ _ _ h=>h,fun _ _ _ h=>h,fun _ _ _ h=>h,fun _ _ _ h=>h,trivial⟩,trivial⟩)
theorem zxa {w0:World} (hM:∀W,Below w0.heap.size w0 W→MaxT W) (hTS:∀W,Below w0.heap.size w0 W→PowT w0.heap.size W∧SynT w0.heap.size W) (l:(List Int)) (raw:RR) (s:(List UInt8)) (pl:Int) (v1:Bool) (v2:RR) (v3:Int) (v4:Int) (n5:Nat) (v7:(List UInt8)) (v9:RR) (v10:(List UInt8)) (v11:RR) (v12:Bool) (v14:(List UInt8)) (v15:Bool) (v17:(List UInt8)) (v18:(List UInt8)) (v19:Bool) (v21:Bool) (v23:Bool) (v24:Bool) (v26:Int) (v27:Int) (v28:Int) (n29:Nat) (v31:(List UInt8)) (n33:Nat) (v35:(List UInt8)) (v37:(List UInt8)) (n39:Nat) (v41:(List UInt8)) (v43:(List UInt8)) (v45:(List UInt8)) (v47:(List UInt8)) (n49:Nat) (v51:(List UInt8)) (v53:(List UInt8)) (n55:Nat) (v57:(List UInt8)) (v59:(List UInt8)) (v61:(List (List UInt8))) (v62:Int) (h16:v15=false) (h20:v19=false) (h22:v21=false) (h25:v24=false) (i:Int) (v501:Bool) (e501:(decide (i<v62))=v501) (h502:v501=false) (F:Fact) (u0:F.c 0=pLs cI l) (u1:F.c 1=pB raw.1.1) (u2:F.c 2=pD raw.1.2) (u3:F.c 3=pB raw.2.1) (u4:F.c 4=pD raw.2.2) (u5:F.c 5=pS s) (u6:F.c 6=pI pl) (u7:F.c 7=pB v1) (u8:F.c 8=pB v2.1.1) (u9:F.c 9=pD v2.1.2) (u10:F.c 10=pB v2.2.1) (u11:F.c 11=pD v2.2.2) (u12:F.c 12=pI v3) (u13:F.c 13=pI v4) (u14:F.c 14=pS v7) (u15:F.c 15=pB v9.1.1) (u16:F.c 16=pD v9.1.2) (u17:F.c 17=pB v9.2.1) (u18:F.c 18=pD v9.2.2) (u19:F.c 19=pS v10) (u20:F.c 20=pB v11.1.1) (u21:F.c 21=pD v11.1.2) (u22:F.c 22=pB v11.2.1) (u23:F.c 23=pD v11.2.2) (u24:F.c 24=pB v12) (u25:F.c 25=pS v14) (u26:F.c 26=pB v15) (u27:F.c 27=pS v17) (u28:F.c 28=pS v18) (u29:F.c 29=pB v19) (u30:F.c 30=pB v21) (u31:F.c 31=pB v23) (u32:F.c 32=pB v24) (u33:F.c 33=pI v26) (u34:F.c 34=pI v27) (u35:F.c 35=pI v28) (u36:F.c 36=pS v31) (u37:F.c 37=pS v35) (u38:F.c 38=pS v37) (u39:F.c 39=pS v41) (u40:F.c 40=pS v43) (u41:F.c 41=pS v45) (u42:F.c 42=pS v47) (u43:F.c 43=pS v51) (u44:F.c 44=pS v53) (u45:F.c 45=pS v57) (u46:F.c 46=pS v59) (u47:F.c 47=pLs cS v61) (u48:F.c 48=pI v62) (R:Frm) (hR:R.pm=⟨ntOf Tryz.prog 6,[],[]⟩):Goes (KN w0) Tryz.prog R (lp Tryz.prog 6 0) (FL [pLs cI l,pB raw.1.1,pD raw.1.2,pB raw.2.1,pD raw.2.2,pS s,pI pl,pB v1,pB v2.1.1,pD v2.1.2,pB v2.2.1,pD v2.2.2,pI v3,pI v4,pS v7,pB v9.1.1,pD v9.1.2,pB v9.2.1,pD v9.2.2,pS v10,pB v11.1.1,pD v11.1.2,pB v11.2.1,pD v11.2.2,pB v12,pS v14,pB v15,pS v17,pS v18,pB v19,pB v21,pB v23,pB v24,pI v26,pI v27,pI v28,pS v31,pS v35,pS v37,pS v41,pS v43,pS v45,pS v47,pS v51,pS v53,pS v57,pS v59,pLs cS v61,pI v62,pI i] []) zbu (.x 0) F txt_S.out:=
 goes (x:=(.x 0)) (y:=(.x 0)) (Fb:=FL [pLs cI l,pB raw.1.1,pD raw.1.2,pB raw.2.1,pD raw.2.2,pS s,pI pl,pB v1,pB v2.1.1,pD v2.1.2,pB v2.2.1,pD v2.2.2,pI v3,pI v4,pS v7,pB v9.1.1,pD v9.1.2,pB v9.2.1,pD v9.2.2,pS v10,pB v11.1.1,pD v11.1.2,pB v11.2.1,pD v11.2.2,pB v12,pS v14,pB v15,pS v17,pS v18,pB v19,pB v21,pB v23,pB v24,pI v26,pI v27,pI v28,pS v31,pS v35,pS v37,pS v41,pS v43,pS v45,pS v47,pS v51,pS v53,pS v57,pS v59,pLs cS v61,pI v62,pI i,pB v501] []) (stb:=zbu) (tl:=(.sl 0 (.o (.c (.h 0)))::.sl 1 (.o (.g [.h 1,.h 2,.h 3,.h 4]))::.sl 2 (.o (.c (.h 14)))::.sl 3 (.o (.c (.h 6)))::.sl 5 (.o (.c (.p 0 0)))::.sl 9 (.o (.c (.h 7)))::.sl 10 (.o (.c (.p 15 0)))::.sl 11 (.o (.c (.h 19)))::.sl 12 (.o (.c (.p 25 0)))::.sl 13 (.o (.c (.h 24)))::.sl 14 (.o (.c (.h 35)))::.sl 21 (.o (.c (.h 7)))::.sl 22 (.o (.g [.h 1,.h 2,.h 3,.h 4]))::.sl 23 (.o (.g [.h 8,.h 9,.h 10,.h 11]))::.sl 24 (.o (.c (.h 5)))::.sl 25 (.o (.c (.h 5)))::.sl 26 (.o (.c (.h 12)))::.sl 27 (.o (.c (.h 13)))::.sl 28 (.o (.c (.h 14)))::.sl 29 (.o (.c (.h 0)))::.sl 30 (.o (.g [.h 15,.h 16,.h 17,.h 18]))::.sl 31 (.o (.g [.h 15,.h 16,.h 17,.h 18]))::.sl 32 (.o (.c (.h 19)))::.sl 34 (.o (.c (.h 19)))::.sl 36 (.o (.g [.h 20,.h 21,.h 22,.h 23]))::.sl 37 (.o (.c (.h 24)))::.sl 38 (.o (.c (.h 19)))::.sl 39 (.o (.g [.h 15,.h 16,.h 17,.h 18]))::.sl 40 (.o (.c (.h 25)))::.sl 41 (.o (.c (.h 26)))::.sl 42 (.o (.c (.h 26)))::.sl 43 (.o (.g [.h 8,.h 9,.h 10,.h 11]))::.sl 44 (.o (.c (.h 27)))::.sl 45 (.o (.g [.h 8,.h 9,.h 10,.h 11]))::.sl 46 (.o (.c (.h 28)))::.sl 47 (.o (.c (.h 29)))::.sl 48 (.o (.c (.h 29)))::.sl 49 (.o (.c (.h 29)))::.sl 50 (.o (.c (.h 24)))::.sl 51 (.o (.c (.h 30)))::.sl 52 (.o (.c (.h 30)))::.sl 53 (.o (.c (.h 30)))::.sl 54 (.o (.g [.h 15,.h 16,.h 17,.h 18]))::.sl 55 (.o (.g [.h 20,.h 21,.h 22,.h 23]))::.sl 56 (.o (.c (.h 31)))::.sl 57 (.o (.c (.h 32)))::.sl 58 (.o (.c (.h 32)))::.sl 59 (.o (.c (.h 6)))::.sl 60 (.o (.c (.h 19)))::.sl 61 (.o (.c (.h 33)))::.sl 62 (.o (.c (.h 34)))::.sl 63 (.o (.c (.h 35)))::.sl 64 (.o (.c (.h 14)))::.sl 65 (.o (.c (.h 19)))::.sl 66 (.o (.c (.h 35)))::.sl 67 (.o (.c (.h 36)))::.sl 68 (.o (.c (.h 19)))::.sl 69 (.o (.c (.h 35)))::.sl 70 (.o (.c (.h 37)))::.sl 71 (.o (.c (.h 14)))::.sl 72 (.o (.c (.h 38)))::.sl 73 (.o (.c (.h 19)))::.sl 74 (.o (.c (.h 35)))::.sl 75 (.o (.c (.h 39)))::.sl 76 (.o (.c (.h 40)))::.sl 77 (.o (.c (.h 19)))::.sl 78 (.o (.c (.h 41)))::.sl 79 (.o (.c (.h 19)))::.sl 80 (.o (.c (.h 42)))::.sl 81 (.o (.c (.h 19)))::.sl 82 (.o (.c (.h 35)))::.sl 83 (.o (.c (.h 43)))::.sl 84 (.o (.c (.h 44)))::.sl 85 (.o (.c (.h 19)))::.sl 86 (.o (.c (.h 35)))::.sl 87 (.o (.c (.h 45)))::.sl 88 (.o (.c (.h 46)))::.sl 89 (.o (.c (.h 47)))::.sl 90 (.o (.c (.h 48)))::.bx 0 28 [.h 8,.h 9,.h 10,.h 11]::.bx 15 28 [.h 15,.h 16,.h 17,.h 18]::.bx 25 28 [.h 20,.h 21,.h 22,.h 23]::[]:List Atom)) (C:=((10026,.fb 26 false) ::
  (10029,.fb 29 false) ::
  (10030,.fb 30 false) ::
  (10032,.fb 32 false) ::
  (1005000,.bin .lss 3 (LF (.h 49)) (LF (.h 48)) (LF (.h 50))) ::
  (10050,.fb 50 false) ::
  []:List (Nat×Ent))) (H:=.no) 5000 (zipA.imp ⟨z_c (fun _ _ _ h=>h),z_g ⟨fun _ _ _ h=>h,fun _ _ _ h=>h,fun _ _ _ h=>h,fun _ _ _ h=>h,trivial⟩,z_c (fun _ _ _ h=>h),z_c (fun _ _ _ h=>h),z_c (fun _ _ _ h=>h),z_c (fun _ _ _ h=>h),z_c (fun _ _ _ h=>h),z_c (fun _ _ _ h=>h),z_c (fun _ _ _ h=>h),z_c (fun _ _ _ h=>h),z_c (fun _ _ _ h=>h),z_c (fun _ _ _ h=>h),z_g ⟨fun _ _ _ h=>h,fun _ _ _ h=>h,fun _ _ _ h=>h,fun _ _ _ h=>h,trivial⟩,z_g ⟨fun _ _ _ h=>h,fun _ _ _ h=>h,fun _ _ _ h=>h,fun _ _ _ h=>h,trivial⟩,z_c (fun _ _ _ h=>h),z_c (fun _ _ _ h=>h),z_c (fun _ _ _ h=>h),z_c (fun _ _ _ h=>h),z_c (fun _ _ _ h=>h),z_c (fun _ _ _ h=>h),z_g ⟨fun _ _ _ h=>h,fun _ _ _ h=>h,fun _ _ _ h=>h,fun _ _ _ h=>h,trivial⟩,z_g ⟨fun _ _ _ h=>h,fun _ _ _ h=>h,fun _ _ _ h=>h,fun _ _ _ h=>h,trivial⟩,z_c (fun _ _ _ h=>h),z_c (fun _ _ _ h=>h),z_g ⟨fun _ _ _ h=>h,fun _ _ _ h=>h,fun _ _ _ h=>h,fun _ _ _ h=>h,trivial⟩,z_c (fun _ _ _ h=>h),z_c (fun _ _ _ h=>h),z_g ⟨fun _ _ _ h=>h,fun _ _ _ h=>h,fun _ _ _ h=>h,fun _ _ _ h=>h,trivial⟩,z_c (fun _ _ _ h=>h),z_c (fun _ _ _ h=>h),z_c (fun _ _ _ h=>h),z_g ⟨fun _ _ _ h=>h,fun _ _ _ h=>h,fun _ _ _ h=>h,fun _ _ _ h=>h,trivial⟩,z_c (fun _ _ _ h=>h),z_g ⟨fun _ _ _ h=>h,fun _ _ _ h=>h,fun _ _ _ h=>h,fun _ _ _ h=>h,trivial⟩,z_c (fun _ _ _ h=>h),z_c (fun _ _ _ h=>h),z_c (fun _ _ _ h=>h),z_c (fun _ _ _ h=>h),z_c (fun _ _ _ h=>h),z_c (fun _ _ _ h=>h),z_c (fun _ _ _ h=>h),z_c (fun _ _ _ h=>h),z_g ⟨fun _ _ _ h=>h,fun _ _ _ h=>h,fun _ _ _ h=>h,fun _ _ _ h=>h,trivial⟩,z_g ⟨fun _ _ _ h=>h,fun _ _ _ h=>h,fun _ _ _ h=>h,fun _ _ _ h=>h,trivial⟩,z_c (fun _ _ _ h=>h),z_c (fun _ _ _ h=>h),z_c (fun _ _ _ h=>h),z_c (fun _ _ _ h=>h),z_c (fun _ _ _ h=>h),z_c (fun _ _ _ h=>h),z_c (fun _ _ _ h=>h),z_c (fun _ _ _ h=>h),z_c (fun _ _ _ h=>h),z_c (fun _ _ _ h=>h),z_c (fun _ _ _ h=>h),z_c (fun _ _ _ h=>h),z_c (fun _ _ _ h=>h),z_c (fun _ _ _ h=>h),z_c (fun _ _ _ h=>h),z_c (fun _ _ _ h=>h),z_c (fun _ _ _ h=>h),z_c (fun _ _ _ h=>h),z_c (fun _ _ _ h=>h),z_c (fun _ _ _ h=>h),z_c (fun _ _ _ h=>h),z_c (fun _ _ _ h=>h),z_c (fun _ _ _ h=>h),z_c (fun _ _ _ h=>h),z_c (fun _ _ _ h=>h),z_c (fun _ _ _ h=>h),z_c (fun _ _ _ h=>h),z_c (fun _ _ _ h=>h),z_c (fun _ _ _ h=>h),z_c (fun _ _ _ h=>h),z_c (fun _ _ _ h=>h),z_c (fun _ _ _ h=>h),z_c (fun _ _ _ h=>h),z_c (fun _ _ _ h=>h),z_c (fun _ _ _ h=>h),z_c (fun _ _ _ h=>h),z_b ⟨fun _ _ _ h=>h,fun _ _ _ h=>h,fun _ _ _ h=>h,fun _ _ _ h=>h,trivial⟩,z_b ⟨fun _ _ _ h=>h,fun _ _ _ h=>h,fun _ _ _ h=>h,fun _ _ _ h=>h,trivial⟩,z_b ⟨fun _ _ _ h=>h,fun _ _ _ h=>h,fun _ _ _ h=>h,fun _ _ _ h=>h,trivial⟩,trivial⟩) (zm ⟨(zC zE),za rfl,ze,za rfl,ze,za rfl,za rfl,za rfl,za rfl,ze,za rfl,ze,za rfl,za rfl,za rfl,za rfl,ze,za rfl,ze,za rfl,za rfl,ze,za rfl,ze,za rfl,za rfl,za rfl,za rfl,za rfl,za rfl,za rfl,za rfl,za rfl,za rfl,za rfl,za rfl,za rfl,za rfl,za rfl,za rfl,za rfl,za rfl,za rfl,za rfl,za rfl,za rfl,za rfl,(zC zep),za rfl,za rfl,za rfl,trivial⟩) ⟨e_fb (show pV (.bool v15)=_ by rw [h16]),
  e_fb (show pV (.bool v19)=_ by rw [h20]),
  e_fb (show pV (.bool v21)=_ by rw [h22]),
  e_fb (show pV (.bool v24)=_ by rw [h25]),
  e_bin (zb rfl) (zb rfl) (zb rfl) (r_cmp (congrArg some e501)),
  e_fb (show pV (.bool v501)=_ by rw [h502]),
  trivial⟩ mixed hR trivial (fun _ _ _ hs=>by cases hs) (by kernel_rfl:q7 (KN w0) Tryz.prog _ .no ⟨ntOf Tryz.prog 6,[],[]⟩ (lp Tryz.prog 6 0) 5000 zbu (.x 0) (.sl 0 (.o (.c (.h 0)))::.sl 1 (.o (.g [.h 1,.h 2,.h 3,.h 4]))::.sl 2 (.o (.c (.h 14)))::.sl 3 (.o (.c (.h 6)))::.sl 5 (.o (.c (.p 0 0)))::.sl 9 (.o (.c (.h 7)))::.sl 10 (.o (.c (.p 15 0)))::.sl 11 (.o (.c (.h 19)))::.sl 12 (.o (.c (.p 25 0)))::.sl 13 (.o (.c (.h 24)))::.sl 14 (.o (.c (.h 35)))::.sl 21 (.o (.c (.h 7)))::.sl 22 (.o (.g [.h 1,.h 2,.h 3,.h 4]))::.sl 23 (.o (.g [.h 8,.h 9,.h 10,.h 11]))::.sl 24 (.o (.c (.h 5)))::.sl 25 (.o (.c (.h 5)))::.sl 26 (.o (.c (.h 12)))::.sl 27 (.o (.c (.h 13)))::.sl 28 (.o (.c (.h 14)))::.sl 29 (.o (.c (.h 0)))::.sl 30 (.o (.g [.h 15,.h 16,.h 17,.h 18]))::.sl 31 (.o (.g [.h 15,.h 16,.h 17,.h 18]))::.sl 32 (.o (.c (.h 19)))::.sl 34 (.o (.c (.h 19)))::.sl 36 (.o (.g [.h 20,.h 21,.h 22,.h 23]))::.sl 37 (.o (.c (.h 24)))::.sl 38 (.o (.c (.h 19)))::.sl 39 (.o (.g [.h 15,.h 16,.h 17,.h 18]))::.sl 40 (.o (.c (.h 25)))::.sl 41 (.o (.c (.h 26)))::.sl 42 (.o (.c (.h 26)))::.sl 43 (.o (.g [.h 8,.h 9,.h 10,.h 11]))::.sl 44 (.o (.c (.h 27)))::.sl 45 (.o (.g [.h 8,.h 9,.h 10,.h 11]))::.sl 46 (.o (.c (.h 28)))::.sl 47 (.o (.c (.h 29)))::.sl 48 (.o (.c (.h 29)))::.sl 49 (.o (.c (.h 29)))::.sl 50 (.o (.c (.h 24)))::.sl 51 (.o (.c (.h 30)))::.sl 52 (.o (.c (.h 30)))::.sl 53 (.o (.c (.h 30)))::.sl 54 (.o (.g [.h 15,.h 16,.h 17,.h 18]))::.sl 55 (.o (.g [.h 20,.h 21,.h 22,.h 23]))::.sl 56 (.o (.c (.h 31)))::.sl 57 (.o (.c (.h 32)))::.sl 58 (.o (.c (.h 32)))::.sl 59 (.o (.c (.h 6)))::.sl 60 (.o (.c (.h 19)))::.sl 61 (.o (.c (.h 33)))::.sl 62 (.o (.c (.h 34)))::.sl 63 (.o (.c (.h 35)))::.sl 64 (.o (.c (.h 14)))::.sl 65 (.o (.c (.h 19)))::.sl 66 (.o (.c (.h 35)))::.sl 67 (.o (.c (.h 36)))::.sl 68 (.o (.c (.h 19)))::.sl 69 (.o (.c (.h 35)))::.sl 70 (.o (.c (.h 37)))::.sl 71 (.o (.c (.h 14)))::.sl 72 (.o (.c (.h 38)))::.sl 73 (.o (.c (.h 19)))::.sl 74 (.o (.c (.h 35)))::.sl 75 (.o (.c (.h 39)))::.sl 76 (.o (.c (.h 40)))::.sl 77 (.o (.c (.h 19)))::.sl 78 (.o (.c (.h 41)))::.sl 79 (.o (.c (.h 19)))::.sl 80 (.o (.c (.h 42)))::.sl 81 (.o (.c (.h 19)))::.sl 82 (.o (.c (.h 35)))::.sl 83 (.o (.c (.h 43)))::.sl 84 (.o (.c (.h 44)))::.sl 85 (.o (.c (.h 19)))::.sl 86 (.o (.c (.h 35)))::.sl 87 (.o (.c (.h 45)))::.sl 88 (.o (.c (.h 46)))::.sl 89 (.o (.c (.h 47)))::.sl 90 (.o (.c (.h 48)))::.bx 0 28 [.h 8,.h 9,.h 10,.h 11]::.bx 15 28 [.h 15,.h 16,.h 17,.h 18]::.bx 25 28 [.h 20,.h 21,.h 22,.h 23]::[]:List Atom)=true) rfl (zipA.imp ⟨z_c (fun β v W h=>(zd u0 β v W).2 h),z_g ⟨fun β v W h=>(zd u1 β v W).2 h,fun β v W h=>(zd u2 β v W).2 h,fun β v W h=>(zd u3 β v W).2 h,fun β v W h=>(zd u4 β v W).2 h,trivial⟩,z_c (fun β v W h=>(zd u14 β v W).2 h),z_c (fun β v W h=>(zd u6 β v W).2 h),z_c (fun _ _ _ h=>h),z_c (fun β v W h=>(zd u7 β v W).2 h),z_c (fun _ _ _ h=>h),z_c (fun β v W h=>(zd u19 β v W).2 h),z_c (fun _ _ _ h=>h),z_c (fun β v W h=>(zd u24 β v W).2 h),z_c (fun β v W h=>(zd u35 β v W).2 h),z_c (fun β v W h=>(zd u7 β v W).2 h),z_g ⟨fun β v W h=>(zd u1 β v W).2 h,fun β v W h=>(zd u2 β v W).2 h,fun β v W h=>(zd u3 β v W).2 h,fun β v W h=>(zd u4 β v W).2 h,trivial⟩,z_g ⟨fun β v W h=>(zd u8 β v W).2 h,fun β v W h=>(zd u9 β v W).2 h,fun β v W h=>(zd u10 β v W).2 h,fun β v W h=>(zd u11 β v W).2 h,trivial⟩,z_c (fun β v W h=>(zd u5 β v W).2 h),z_c (fun β v W h=>(zd u5 β v W).2 h),z_c (fun β v W h=>(zd u12 β v W).2 h),z_c (fun β v W h=>(zd u13 β v W).2 h),z_c (fun β v W h=>(zd u14 β v W).2 h),z_c (fun β v W h=>(zd u0 β v W).2 h),z_g ⟨fun β v W h=>(zd u15 β v W).2 h,fun β v W h=>(zd u16 β v W).2 h,fun β v W h=>(zd u17 β v W).2 h,fun β v W h=>(zd u18 β v W).2 h,trivial⟩,z_g ⟨fun β v W h=>(zd u15 β v W).2 h,fun β v W h=>(zd u16 β v W).2 h,fun β v W h=>(zd u17 β v W).2 h,fun β v W h=>(zd u18 β v W).2 h,trivial⟩,z_c (fun β v W h=>(zd u19 β v W).2 h),z_c (fun β v W h=>(zd u19 β v W).2 h),z_g ⟨fun β v W h=>(zd u20 β v W).2 h,fun β v W h=>(zd u21 β v W).2 h,fun β v W h=>(zd u22 β v W).2 h,fun β v W h=>(zd u23 β v W).2 h,trivial⟩,z_c (fun β v W h=>(zd u24 β v W).2 h),z_c (fun β v W h=>(zd u19 β v W).2 h),z_g ⟨fun β v W h=>(zd u15 β v W).2 h,fun β v W h=>(zd u16 β v W).2 h,fun β v W h=>(zd u17 β v W).2 h,fun β v W h=>(zd u18 β v W).2 h,trivial⟩,z_c (fun β v W h=>(zd u25 β v W).2 h),z_c (fun β v W h=>(zd u26 β v W).2 h),z_c (fun β v W h=>(zd u26 β v W).2 h),z_g ⟨fun β v W h=>(zd u8 β v W).2 h,fun β v W h=>(zd u9 β v W).2 h,fun β v W h=>(zd u10 β v W).2 h,fun β v W h=>(zd u11 β v W).2 h,trivial⟩,z_c (fun β v W h=>(zd u27 β v W).2 h),z_g ⟨fun β v W h=>(zd u8 β v W).2 h,fun β v W h=>(zd u9 β v W).2 h,fun β v W h=>(zd u10 β v W).2 h,fun β v W h=>(zd u11 β v W).2 h,trivial⟩,z_c (fun β v W h=>(zd u28 β v W).2 h),z_c (fun β v W h=>(zd u29 β v W).2 h),z_c (fun β v W h=>(zd u29 β v W).2 h),z_c (fun β v W h=>(zd u29 β v W).2 h),z_c (fun β v W h=>(zd u24 β v W).2 h),z_c (fun β v W h=>(zd u30 β v W).2 h),z_c (fun β v W h=>(zd u30 β v W).2 h),z_c (fun β v W h=>(zd u30 β v W).2 h),z_g ⟨fun β v W h=>(zd u15 β v W).2 h,fun β v W h=>(zd u16 β v W).2 h,fun β v W h=>(zd u17 β v W).2 h,fun β v W h=>(zd u18 β v W).2 h,trivial⟩,z_g ⟨fun β v W h=>(zd u20 β v W).2 h,fun β v W h=>(zd u21 β v W).2 h,fun β v W h=>(zd u22 β v W).2 h,fun β v W h=>(zd u23 β v W).2 h,trivial⟩,z_c (fun β v W h=>(zd u31 β v W).2 h),z_c (fun β v W h=>(zd u32 β v W).2 h),z_c (fun β v W h=>(zd u32 β v W).2 h),z_c (fun β v W h=>(zd u6 β v W).2 h),z_c (fun β v W h=>(zd u19 β v W).2 h),z_c (fun β v W h=>(zd u33 β v W).2 h),z_c (fun β v W h=>(zd u34 β v W).2 h),z_c (fun β v W h=>(zd u35 β v W).2 h),z_c (fun β v W h=>(zd u14 β v W).2 h),z_c (fun β v W h=>(zd u19 β v W).2 h),z_c (fun β v W h=>(zd u35 β v W).2 h),z_c (fun β v W h=>(zd u36 β v W).2 h),z_c (fun β v W h=>(zd u19 β v W).2 h),z_c (fun β v W h=>(zd u35 β v W).2 h),z_c (fun β v W h=>(zd u37 β v W).2 h),z_c (fun β v W h=>(zd u14 β v W).2 h),z_c (fun β v W h=>(zd u38 β v W).2 h),z_c (fun β v W h=>(zd u19 β v W).2 h),z_c (fun β v W h=>(zd u35 β v W).2 h),z_c (fun β v W h=>(zd u39 β v W).2 h),z_c (fun β v W h=>(zd u40 β v W).2 h),z_c (fun β v W h=>(zd u19 β v W).2 h),z_c (fun β v W h=>(zd u41 β v W).2 h),z_c (fun β v W h=>(zd u19 β v W).2 h),z_c (fun β v W h=>(zd u42 β v W).2 h),z_c (fun β v W h=>(zd u19 β v W).2 h),z_c (fun β v W h=>(zd u35 β v W).2 h),z_c (fun β v W h=>(zd u43 β v W).2 h),z_c (fun β v W h=>(zd u44 β v W).2 h),z_c (fun β v W h=>(zd u19 β v W).2 h),z_c (fun β v W h=>(zd u35 β v W).2 h),z_c (fun β v W h=>(zd u45 β v W).2 h),z_c (fun β v W h=>(zd u46 β v W).2 h),z_c (fun β v W h=>(zd u47 β v W).2 h),z_c (fun β v W h=>(zd u48 β v W).2 h),z_b ⟨fun β v W h=>(zd u8 β v W).2 h,fun β v W h=>(zd u9 β v W).2 h,fun β v W h=>(zd u10 β v W).2 h,fun β v W h=>(zd u11 β v W).2 h,trivial⟩,z_b ⟨fun β v W h=>(zd u15 β v W).2 h,fun β v W h=>(zd u16 β v W).2 h,fun β v W h=>(zd u17 β v W).2 h,fun β v W h=>(zd u18 β v W).2 h,trivial⟩,z_b ⟨fun β v W h=>(zd u20 β v W).2 h,fun β v W h=>(zd u21 β v W).2 h,fun β v W h=>(zd u22 β v W).2 h,fun β v W h=>(zd u23 β v W).2 h,trivial⟩,trivial⟩)
def txt_X (l:(List Int)) (raw:RR) (s:(List UInt8)) (pl:Int) (v1:Bool) (v2:RR) (v3:Int) (v4:Int) (n5:Nat) (v7:(List UInt8)) (v9:RR) (v10:(List UInt8)) (v11:RR) (v12:Bool) (v14:(List UInt8)) (v15:Bool) (v17:(List UInt8)) (v18:(List UInt8)) (v19:Bool) (v21:Bool) (v23:Bool) (v24:Bool) (v26:Int) (v27:Int) (v28:Int) (n29:Nat) (v31:(List UInt8)) (n33:Nat) (v35:(List UInt8)) (v37:(List UInt8)) (n39:Nat) (v41:(List UInt8)) (v43:(List UInt8)) (v45:(List UInt8)) (v47:(List UInt8)) (n49:Nat) (v51:(List UInt8)) (v53:(List UInt8)) (n55:Nat) (v57:(List UInt8)) (v59:(List UInt8)) (v61:(List (List UInt8))) (v62:Int) (t:txt_T):Prop:=(∃(v501:Bool),((decide (t.i<v62))=v501)∧(v501=false)∧True)
def txt_N (l:(List Int)) (raw:RR) (s:(List UInt8)) (pl:Int) (v1:Bool) (v2:RR) (v3:Int) (v4:Int) (n5:Nat) (v7:(List UInt8)) (v9:RR) (v10:(List UInt8)) (v11:RR) (v12:Bool) (v14:(List UInt8)) (v15:Bool) (v17:(List UInt8)) (v18:(List UInt8)) (v19:Bool) (v21:Bool) (v23:Bool) (v24:Bool) (v26:Int) (v27:Int) (v28:Int) (n29:Nat) (v31:(List UInt8)) (n33:Nat) (v35:(List UInt8)) (v37:(List UInt8)) (n39:Nat) (v41:(List UInt8)) (v43:(List UInt8)) (v45:(List UInt8)) (v47:(List UInt8)) (n49:Nat) (v51:(List UInt8)) (v53:(List UInt8)) (n55:Nat) (v57:(List UInt8)) (v59:(List UInt8)) (v61:(List (List UInt8))) (v62:Int) (t t':txt_T):Prop:=(∃(v501:Bool),∃(n503:Nat),∃(x504:(List UInt8)),∃(v507:RR),∃(v508:Bool),∃(v510:RR),∃(v511:Bool),∃(v513:Bool),∃(v515:Bool),∃(v516:Bool),∃(v519:(List UInt8)),∃(v520:Bool),∃(v522:Int),((decide (t.i<v62))=v501)∧((parR x504)=v507)∧((okP x504)=v508)∧((parR x504)=v510)∧((okP x504)=v511)∧((!(v508 == v511))=v513)∧((decide (v507=v510))=v515)∧((!v515)=v516)∧((textR v507)=v519)∧((!((v519:List UInt8) == x504))=v520)∧((IntKind.i64.wrap (t.i+(1:Int)))=v522)∧(v501=true)∧(t.i=(n503:Int))∧(v61[n503]?=some x504)∧((x504:List UInt8).length<4294967281)∧((x504:List UInt8).length≤1000)∧(v513=false)∧(v516=false)∧(v508=true)∧(v520=false)∧((v522)=t'.i)∧True)∨(∃(v501:Bool),∃(n503:Nat),∃(x504:(List UInt8)),∃(v507:RR),∃(v508:Bool),∃(v510:RR),∃(v511:Bool),∃(v513:Bool),∃(v515:Bool),∃(v516:Bool),∃(v519:Int),((decide (t.i<v62))=v501)∧((parR x504)=v507)∧((okP x504)=v508)∧((parR x504)=v510)∧((okP x504)=v511)∧((!(v508 == v511))=v513)∧((decide (v507=v510))=v515)∧((!v515)=v516)∧((IntKind.i64.wrap (t.i+(1:Int)))=v519)∧(v501=true)∧(t.i=(n503:Int))∧(v61[n503]?=some x504)∧((x504:List UInt8).length<4294967281)∧((x504:List UInt8).length≤1000)∧(v513=false)∧(v516=false)∧(v508=false)∧((v519)=t'.i)∧True)
theorem zsF {w0:World} (hM:∀W,Below w0.heap.size w0 W→MaxT W) (hTS:∀W,Below w0.heap.size w0 W→PowT w0.heap.size W∧SynT w0.heap.size W) (l:(List Int)) (raw:RR) (s:(List UInt8)) (pl:Int) (v1:Bool) (v2:RR) (v3:Int) (v4:Int) (n5:Nat) (v7:(List UInt8)) (v9:RR) (v10:(List UInt8)) (v11:RR) (v12:Bool) (v14:(List UInt8)) (v15:Bool) (v17:(List UInt8)) (v18:(List UInt8)) (v19:Bool) (v21:Bool) (v23:Bool) (v24:Bool) (v26:Int) (v27:Int) (v28:Int) (n29:Nat) (v31:(List UInt8)) (n33:Nat) (v35:(List UInt8)) (v37:(List UInt8)) (n39:Nat) (v41:(List UInt8)) (v43:(List UInt8)) (v45:(List UInt8)) (v47:(List UInt8)) (n49:Nat) (v51:(List UInt8)) (v53:(List UInt8)) (n55:Nat) (v57:(List UInt8)) (v59:(List UInt8)) (v61:(List (List UInt8))) (v62:Int) (h16:v15=false) (h20:v19=false) (h22:v21=false) (h25:v24=false) {F:Fact} (u0:F.c 0=pLs cI l) (u1:F.c 1=pB raw.1.1) (u2:F.c 2=pD raw.1.2) (u3:F.c 3=pB raw.2.1) (u4:F.c 4=pD raw.2.2) (u5:F.c 5=pS s) (u6:F.c 6=pI pl) (u7:F.c 7=pB v1) (u8:F.c 8=pB v2.1.1) (u9:F.c 9=pD v2.1.2) (u10:F.c 10=pB v2.2.1) (u11:F.c 11=pD v2.2.2) (u12:F.c 12=pI v3) (u13:F.c 13=pI v4) (u14:F.c 14=pS v7) (u15:F.c 15=pB v9.1.1) (u16:F.c 16=pD v9.1.2) (u17:F.c 17=pB v9.2.1) (u18:F.c 18=pD v9.2.2) (u19:F.c 19=pS v10) (u20:F.c 20=pB v11.1.1) (u21:F.c 21=pD v11.1.2) (u22:F.c 22=pB v11.2.1) (u23:F.c 23=pD v11.2.2) (u24:F.c 24=pB v12) (u25:F.c 25=pS v14) (u26:F.c 26=pB v15) (u27:F.c 27=pS v17) (u28:F.c 28=pS v18) (u29:F.c 29=pB v19) (u30:F.c 30=pB v21) (u31:F.c 31=pB v23) (u32:F.c 32=pB v24) (u33:F.c 33=pI v26) (u34:F.c 34=pI v27) (u35:F.c 35=pI v28) (u36:F.c 36=pS v31) (u37:F.c 37=pS v35) (u38:F.c 38=pS v37) (u39:F.c 39=pS v41) (u40:F.c 40=pS v43) (u41:F.c 41=pS v45) (u42:F.c 42=pS v47) (u43:F.c 43=pS v51) (u44:F.c 44=pS v53) (u45:F.c 45=pS v57) (u46:F.c 46=pS v59) (u47:F.c 47=pLs cS v61) (u48:F.c 48=pI v62) (R:Frm) (hR:R.pm=⟨ntOf Tryz.prog 6,[],[]⟩) (J:txt_T→Prop) (m:txt_T→Nat) (hJ:J { i:=(0:Int) }) (rounds:∀t,J t→txt_X l raw s pl v1 v2 v3 v4 n5 v7 v9 v10 v11 v12 v14 v15 v17 v18 v19 v21 v23 v24 v26 v27 v28 n29 v31 n33 v35 v37 n39 v41 v43 v45 v47 n49 v51 v53 n55 v57 v59 v61 v62 t ∨∃t',txt_N l raw s pl v1 v2 v3 v4 n5 v7 v9 v10 v11 v12 v14 v15 v17 v18 v19 v21 v23 v24 v26 v27 v28 n29 v31 n33 v35 v37 n39 v41 v43 v45 v47 n49 v51 v53 n55 v57 v59 v61 v62 t t'∧m t'<m t∧J t'):zB (KN w0) Tryz.prog F R txt_S (lp Tryz.prog 6 0):=by
 refine za1 (T:=txt_T) (fun t=>FL [pLs cI l,pB raw.1.1,pD raw.1.2,pB raw.2.1,pD raw.2.2,pS s,pI pl,pB v1,pB v2.1.1,pD v2.1.2,pB v2.2.1,pD v2.2.2,pI v3,pI v4,pS v7,pB v9.1.1,pD v9.1.2,pB v9.2.1,pD v9.2.2,pS v10,pB v11.1.1,pD v11.1.2,pB v11.2.1,pD v11.2.2,pB v12,pS v14,pB v15,pS v17,pS v18,pB v19,pB v21,pB v23,pB v24,pI v26,pI v27,pI v28,pS v31,pS v35,pS v37,pS v41,pS v43,pS v45,pS v47,pS v51,pS v53,pS v57,pS v59,pLs cS v61,pI v62,pI t.i] []) J m { i:=(0:Int) } zbu hJ (zipA.imp ⟨z_c (fun β v W h=>(zd u0 β v W).1 h),z_g ⟨fun β v W h=>(zd u1 β v W).1 h,fun β v W h=>(zd u2 β v W).1 h,fun β v W h=>(zd u3 β v W).1 h,fun β v W h=>(zd u4 β v W).1 h,trivial⟩,z_c (fun β v W h=>(zd u14 β v W).1 h),z_c (fun β v W h=>(zd u6 β v W).1 h),z_c (fun _ _ _ h=>h),z_c (fun β v W h=>(zd u7 β v W).1 h),z_c (fun _ _ _ h=>h),z_c (fun β v W h=>(zd u19 β v W).1 h),z_c (fun _ _ _ h=>h),z_c (fun β v W h=>(zd u24 β v W).1 h),z_c (fun β v W h=>(zd u35 β v W).1 h),z_c (fun β v W h=>(zd u7 β v W).1 h),z_g ⟨fun β v W h=>(zd u1 β v W).1 h,fun β v W h=>(zd u2 β v W).1 h,fun β v W h=>(zd u3 β v W).1 h,fun β v W h=>(zd u4 β v W).1 h,trivial⟩,z_g ⟨fun β v W h=>(zd u8 β v W).1 h,fun β v W h=>(zd u9 β v W).1 h,fun β v W h=>(zd u10 β v W).1 h,fun β v W h=>(zd u11 β v W).1 h,trivial⟩,z_c (fun β v W h=>(zd u5 β v W).1 h),z_c (fun β v W h=>(zd u5 β v W).1 h),z_c (fun β v W h=>(zd u12 β v W).1 h),z_c (fun β v W h=>(zd u13 β v W).1 h),z_c (fun β v W h=>(zd u14 β v W).1 h),z_c (fun β v W h=>(zd u0 β v W).1 h),z_g ⟨fun β v W h=>(zd u15 β v W).1 h,fun β v W h=>(zd u16 β v W).1 h,fun β v W h=>(zd u17 β v W).1 h,fun β v W h=>(zd u18 β v W).1 h,trivial⟩,z_g ⟨fun β v W h=>(zd u15 β v W).1 h,fun β v W h=>(zd u16 β v W).1 h,fun β v W h=>(zd u17 β v W).1 h,fun β v W h=>(zd u18 β v W).1 h,trivial⟩,z_c (fun β v W h=>(zd u19 β v W).1 h),z_c (fun β v W h=>(zd u19 β v W).1 h),z_g ⟨fun β v W h=>(zd u20 β v W).1 h,fun β v W h=>(zd u21 β v W).1 h,fun β v W h=>(zd u22 β v W).1 h,fun β v W h=>(zd u23 β v W).1 h,trivial⟩,z_c (fun β v W h=>(zd u24 β v W).1 h),z_c (fun β v W h=>(zd u19 β v W).1 h),z_g ⟨fun β v W h=>(zd u15 β v W).1 h,fun β v W h=>(zd u16 β v W).1 h,fun β v W h=>(zd u17 β v W).1 h,fun β v W h=>(zd u18 β v W).1 h,trivial⟩,z_c (fun β v W h=>(zd u25 β v W).1 h),z_c (fun β v W h=>(zd u26 β v W).1 h),z_c (fun β v W h=>(zd u26 β v W).1 h),z_g ⟨fun β v W h=>(zd u8 β v W).1 h,fun β v W h=>(zd u9 β v W).1 h,fun β v W h=>(zd u10 β v W).1 h,fun β v W h=>(zd u11 β v W).1 h,trivial⟩,z_c (fun β v W h=>(zd u27 β v W).1 h),z_g ⟨fun β v W h=>(zd u8 β v W).1 h,fun β v W h=>(zd u9 β v W).1 h,fun β v W h=>(zd u10 β v W).1 h,fun β v W h=>(zd u11 β v W).1 h,trivial⟩,z_c (fun β v W h=>(zd u28 β v W).1 h),z_c (fun β v W h=>(zd u29 β v W).1 h),z_c (fun β v W h=>(zd u29 β v W).1 h),z_c (fun β v W h=>(zd u29 β v W).1 h),z_c (fun β v W h=>(zd u24 β v W).1 h),z_c (fun β v W h=>(zd u30 β v W).1 h),z_c (fun β v W h=>(zd u30 β v W).1 h),z_c (fun β v W h=>(zd u30 β v W).1 h),z_g ⟨fun β v W h=>(zd u15 β v W).1 h,fun β v W h=>(zd u16 β v W).1 h,fun β v W h=>(zd u17 β v W).1 h,fun β v W h=>(zd u18 β v W).1 h,trivial⟩,z_g ⟨fun β v W h=>(zd u20 β v W).1 h,fun β v W h=>(zd u21 β v W).1 h,fun β v W h=>(zd u22 β v W).1 h,fun β v W h=>(zd u23 β v W).1 h,trivial⟩,z_c (fun β v W h=>(zd u31 β v W).1 h),z_c (fun β v W h=>(zd u32 β v W).1 h),z_c (fun β v W h=>(zd u32 β v W).1 h),z_c (fun β v W h=>(zd u6 β v W).1 h),z_c (fun β v W h=>(zd u19 β v W).1 h),z_c (fun β v W h=>(zd u33 β v W).1 h),z_c (fun β v W h=>(zd u34 β v W).1 h),z_c (fun β v W h=>(zd u35 β v W).1 h),z_c (fun β v W h=>(zd u14 β v W).1 h),z_c (fun β v W h=>(zd u19 β v W).1 h),z_c (fun β v W h=>(zd u35 β v W).1 h),z_c (fun β v W h=>(zd u36 β v W).1 h),z_c (fun β v W h=>(zd u19 β v W).1 h),z_c (fun β v W h=>(zd u35 β v W).1 h),z_c (fun β v W h=>(zd u37 β v W).1 h),z_c (fun β v W h=>(zd u14 β v W).1 h),z_c (fun β v W h=>(zd u38 β v W).1 h),z_c (fun β v W h=>(zd u19 β v W).1 h),z_c (fun β v W h=>(zd u35 β v W).1 h),z_c (fun β v W h=>(zd u39 β v W).1 h),z_c (fun β v W h=>(zd u40 β v W).1 h),z_c (fun β v W h=>(zd u19 β v W).1 h),z_c (fun β v W h=>(zd u41 β v W).1 h),z_c (fun β v W h=>(zd u19 β v W).1 h),z_c (fun β v W h=>(zd u42 β v W).1 h),z_c (fun β v W h=>(zd u19 β v W).1 h),z_c (fun β v W h=>(zd u35 β v W).1 h),z_c (fun β v W h=>(zd u43 β v W).1 h),z_c (fun β v W h=>(zd u44 β v W).1 h),z_c (fun β v W h=>(zd u19 β v W).1 h),z_c (fun β v W h=>(zd u35 β v W).1 h),z_c (fun β v W h=>(zd u45 β v W).1 h),z_c (fun β v W h=>(zd u46 β v W).1 h),z_c (fun β v W h=>(zd u47 β v W).1 h),z_c (fun β v W h=>(zd u48 β v W).1 h),z_c (fun _ _ _ h=>h),z_b ⟨fun β v W h=>(zd u8 β v W).1 h,fun β v W h=>(zd u9 β v W).1 h,fun β v W h=>(zd u10 β v W).1 h,fun β v W h=>(zd u11 β v W).1 h,trivial⟩,z_b ⟨fun β v W h=>(zd u15 β v W).1 h,fun β v W h=>(zd u16 β v W).1 h,fun β v W h=>(zd u17 β v W).1 h,fun β v W h=>(zd u18 β v W).1 h,trivial⟩,z_b ⟨fun β v W h=>(zd u20 β v W).1 h,fun β v W h=>(zd u21 β v W).1 h,fun β v W h=>(zd u22 β v W).1 h,fun β v W h=>(zd u23 β v W).1 h,trivial⟩,trivial⟩) rfl fun t ht=>?_
 rcases rounds t ht with hz_ | ⟨t',hz_,hm_,hj_⟩
 ·refine .inl ?_
  rcases hz_ with ⟨v501,e501,h502,_⟩
  ·exact zxa hM hTS l raw s pl v1 v2 v3 v4 n5 v7 v9 v10 v11 v12 v14 v15 v17 v18 v19 v21 v23 v24 v26 v27 v28 n29 v31 n33 v35 v37 n39 v41 v43 v45 v47 n49 v51 v53 n55 v57 v59 v61 v62 h16 h20 h22 h25 t.i v501 e501 h502  F u0 u1 u2 u3 u4 u5 u6 u7 u8 u9 u10 u11 u12 u13 u14 u15 u16 u17 u18 u19 u20 u21 u22 u23 u24 u25 u26 u27 u28 u29 u30 u31 u32 u33 u34 u35 u36 u37 u38 u39 u40 u41 u42 u43 u44 u45 u46 u47 u48  R hR
 ·refine .inr ⟨t',hm_,hj_,?_⟩
  rcases hz_ with ⟨v501,n503,x504,v507,v508,v510,v511,v513,v515,v516,v519,v520,v522,e501,e507,e508,e510,e511,e513,e515,e516,e519,e520,e522,h502,s505,s506,s509,s512,h514,h517,h518,h521,q0,_⟩ | ⟨v501,n503,x504,v507,v508,v510,v511,v513,v515,v516,v519,e501,e507,e508,e510,e511,e513,e515,e516,e519,h502,s505,s506,s509,s512,h514,h517,h518,q0,_⟩
  ·exact zw8 hM hTS l raw s pl v1 v2 v3 v4 n5 v7 v9 v10 v11 v12 v14 v15 v17 v18 v19 v21 v23 v24 v26 v27 v28 n29 v31 n33 v35 v37 n39 v41 v43 v45 v47 n49 v51 v53 n55 v57 v59 v61 v62 h16 h20 h22 h25 t.i v501 n503 x504 v507 v508 v510 v511 v513 v515 v516 v519 v520 v522 e501 e507 e508 e510 e511 e513 e515 e516 e519 e520 e522 h502 s505 s506 s509 s512 h514 h517 h518 h521 t'.i q0 R hR
  ·exact zw9 hM hTS l raw s pl v1 v2 v3 v4 n5 v7 v9 v10 v11 v12 v14 v15 v17 v18 v19 v21 v23 v24 v26 v27 v28 n29 v31 n33 v35 v37 n39 v41 v43 v45 v47 n49 v51 v53 n55 v57 v59 v61 v62 h16 h20 h22 h25 t.i v501 n503 x504 v507 v508 v510 v511 v513 v515 v516 v519 e501 e507 e508 e510 e511 e513 e515 e516 e519 h502 s505 s506 s509 s512 h514 h517 h518 t'.i q0 R hR
theorem zw7 {w0:World} (hM:∀W,Below w0.heap.size w0 W→MaxT W) (hTS:∀W,Below w0.heap.size w0 W→PowT w0.heap.size W∧SynT w0.heap.size W) (l:(List Int)) (raw:RR) (s:(List UInt8)) (pl:Int) (v1:Bool) (v2:RR) (v3:Int) (v4:Int) (n5:Nat) (v7:(List UInt8)) (v9:RR) (v10:(List UInt8)) (v11:RR) (v12:Bool) (v14:(List UInt8)) (v15:Bool) (v17:(List UInt8)) (v18:(List UInt8)) (v19:Bool) (v21:Bool) (v23:Bool) (v24:Bool) (v26:Int) (v27:Int) (v28:Int) (n29:Nat) (v31:(List UInt8)) (n33:Nat) (v35:(List UInt8)) (v37:(List UInt8)) (n39:Nat) (v41:(List UInt8)) (v43:(List UInt8)) (v45:(List UInt8)) (v47:(List UInt8)) (n49:Nat) (v51:(List UInt8)) (v53:(List UInt8)) (n55:Nat) (v57:(List UInt8)) (v59:(List UInt8)) (v61:(List (List UInt8))) (v62:Int) (h16:v15=false) (h20:v19=false) (h22:v21=false) (h25:v24=false) {F:Fact} (u0:F.c 0=pLs cI l) (u1:F.c 1=pB raw.1.1) (u2:F.c 2=pD raw.1.2) (u3:F.c 3=pB raw.2.1) (u4:F.c 4=pD raw.2.2) (u5:F.c 5=pS s) (u6:F.c 6=pI pl) (u7:F.c 7=pB v1) (u8:F.c 8=pB v2.1.1) (u9:F.c 9=pD v2.1.2) (u10:F.c 10=pB v2.2.1) (u11:F.c 11=pD v2.2.2) (u12:F.c 12=pI v3) (u13:F.c 13=pI v4) (u14:F.c 14=pS v7) (u15:F.c 15=pB v9.1.1) (u16:F.c 16=pD v9.1.2) (u17:F.c 17=pB v9.2.1) (u18:F.c 18=pD v9.2.2) (u19:F.c 19=pS v10) (u20:F.c 20=pB v11.1.1) (u21:F.c 21=pD v11.1.2) (u22:F.c 22=pB v11.2.1) (u23:F.c 23=pD v11.2.2) (u24:F.c 24=pB v12) (u25:F.c 25=pS v14) (u26:F.c 26=pB v15) (u27:F.c 27=pS v17) (u28:F.c 28=pS v18) (u29:F.c 29=pB v19) (u30:F.c 30=pB v21) (u31:F.c 31=pB v23) (u32:F.c 32=pB v24) (u33:F.c 33=pI v26) (u34:F.c 34=pI v27) (u35:F.c 35=pI v28) (u36:F.c 36=pS v31) (u37:F.c 37=pS v35) (u38:F.c 38=pS v37) (u39:F.c 39=pS v41) (u40:F.c 40=pS v43) (u41:F.c 41=pS v45) (u42:F.c 42=pS v47) (u43:F.c 43=pS v51) (u44:F.c 44=pS v53) (u45:F.c 45=pS v57) (u46:F.c 46=pS v59) (u47:F.c 47=pLs cS v61) (u48:F.c 48=pI v62) (R:Frm) (hR:R.pm=⟨ntOf Tryz.prog 6,[],[]⟩) (hl:∀u∈v61,u.length≤1000) (h6:v62=(v61.length:Int)) (h7:v61.length=6):zB (KN w0) Tryz.prog F R txt_S (lp Tryz.prog 6 0):=by
 refine zsF hM hTS l raw s pl v1 v2 v3 v4 n5 v7 v9 v10 v11 v12 v14 v15 v17 v18 v19 v21 v23 v24 v26 v27 v28 n29 v31 n33 v35 v37 n39 v41 v43 v45 v47 n49 v51 v53 n55 v57 v59 v61 v62 h16 h20 h22 h25  u0 u1 u2 u3 u4 u5 u6 u7 u8 u9 u10 u11 u12 u13 u14 u15 u16 u17 u18 u19 u20 u21 u22 u23 u24 u25 u26 u27 u28 u29 u30 u31 u32 u33 u34 u35 u36 u37 u38 u39 u40 u41 u42 u43 u44 u45 u46 u47 u48 R hR (fun ⟨i⟩=>∃k:Nat,i=(k:Int)) (fun ⟨i⟩=>(6 - i).toNat) ⟨0,rfl⟩ fun t hJ=>?_
 obtain ⟨i⟩:=t
 dsimp only at hJ
 obtain ⟨k,hi⟩:=hJ
 obtain ⟨v501,e501⟩:∃v,(decide (i<v62))=v:=⟨_,rfl⟩
 cases h502:v501 with
 | true =>
  obtain ⟨n503,x504,s505,s506⟩:∃(n503:Nat) (x504:(List UInt8)),i=(n503:Int)∧v61[n503]?=some x504:=by (have d1:=of_decide_eq_true (e501.trans h502);have hlt:k<v61.length:=(by omega);exact ⟨k,v61[k],hi,List.getElem?_eq_getElem hlt⟩)
  obtain ⟨v507,e507⟩:∃v,(parR x504)=v:=⟨_,rfl⟩
  obtain ⟨v508,e508⟩:∃v,(okP x504)=v:=⟨_,rfl⟩
  have s509:(x504:List UInt8).length<4294967281:=by (have:=hl _ (List.mem_of_getElem? s506);omega)
  obtain ⟨v510,e510⟩:∃v,(parR x504)=v:=⟨_,rfl⟩
  obtain ⟨v511,e511⟩:∃v,(okP x504)=v:=⟨_,rfl⟩
  have s512:(x504:List UInt8).length≤1000:=by (have:=hl _ (List.mem_of_getElem? s506);omega)
  obtain ⟨v513,e513⟩:∃v,(!(v508 == v511))=v:=⟨_,rfl⟩
  cases h514:v513 with
  | true =>
   exfalso
   clear hl e501 h502 h6 h7 hi s505 s506 s509 s512
   subst_vars
   all_goals simp_all
  | false =>
   obtain ⟨v515,e515⟩:∃v,(decide (v507=v510))=v:=⟨_,rfl⟩
   obtain ⟨v516,e516⟩:∃v,(!v515)=v:=⟨_,rfl⟩
   cases h517:v516 with
   | true =>
    exfalso
    clear hl e501 h502 h6 h7 hi s505 s506 s509 s512
    subst_vars
    all_goals simp_all
   | false =>
    cases h518:v508 with
    | true =>
     obtain ⟨v519,e519⟩:∃v,(textR v507)=v:=⟨_,rfl⟩
     obtain ⟨v520,e520⟩:∃v,(!((v519:List UInt8) == x504))=v:=⟨_,rfl⟩
     cases h521:v520 with
     | true =>
      exfalso
      have hq:=zpZ (e508.trans h518)
      rw [← e519,← e507,hq,h521] at e520
      simp at e520
     | false =>
      obtain ⟨v522,e522⟩:∃v,(IntKind.i64.wrap (i+(1:Int)))=v:=⟨_,rfl⟩
      refine .inr ⟨⟨v522⟩,Or.inl (⟨v501,n503,x504,v507,v508,v510,v511,v513,v515,v516,v519,v520,v522,e501,e507,e508,e510,e511,e513,e515,e516,e519,e520,e522,h502,s505,s506,s509,s512,h514,h517,h518,h521,rfl,trivial⟩),?_,?_⟩
      all_goals (have d1:=of_decide_eq_true (e501.trans h502);rw [wr64 (by omega)] at e522)
      ·show (6 - v522:Int).toNat<(6 - i:Int).toNat
       omega
      ·exact ⟨k+1,by omega⟩
    | false =>
     obtain ⟨v519,e519⟩:∃v,(IntKind.i64.wrap (i+(1:Int)))=v:=⟨_,rfl⟩
     refine .inr ⟨⟨v519⟩,Or.inr (⟨v501,n503,x504,v507,v508,v510,v511,v513,v515,v516,v519,e501,e507,e508,e510,e511,e513,e515,e516,e519,h502,s505,s506,s509,s512,h514,h517,h518,rfl,trivial⟩),?_,?_⟩
     all_goals (have d1:=of_decide_eq_true (e501.trans h502);rw [wr64 (by omega)] at e519)
     ·show (6 - v519:Int).toNat<(6 - i:Int).toNat
      omega
     ·exact ⟨k+1,by omega⟩
 | false =>
  refine .inl (⟨v501,e501,h502,trivial⟩)
theorem zsC (l:List Int) (raw:RR) (s:List UInt8) (pl:Int):∀u∈([((s:List UInt8).take ((((if (60:Int)<(((s:List UInt8).length:Int)) then (60:Int) else (((s:List UInt8).length:Int))))).toNat)),(((textR (rq (madeR l))):List UInt8).take (((modI pl (IntKind.i64.wrap (((((textR (rq (madeR l))):List UInt8).length:Int))+(1:Int))))).toNat)),(((((textR (rq (madeR l))):List UInt8).take (((modI pl (IntKind.i64.wrap (((((textR (rq (madeR l))):List UInt8).length:Int))+(1:Int))))).toNat))++((s:List UInt8).take ((((if (60:Int)<(((s:List UInt8).length:Int)) then (60:Int) else (((s:List UInt8).length:Int))))).toNat)))++(((textR (rq (madeR l))):List UInt8).drop (((modI pl (IntKind.i64.wrap (((((textR (rq (madeR l))):List UInt8).length:Int))+(1:Int))))).toNat))),((textR (rq (madeR l)))++[47,49]),([48]++(textR (rq (madeR l)))),(((((textR (rq (madeR l))):List UInt8).drop (((modI pl (IntKind.i64.wrap (((((textR (rq (madeR l))):List UInt8).length:Int))+(1:Int))))).toNat))++[47])++(((textR (rq (madeR l))):List UInt8).take (((modI pl (IntKind.i64.wrap (((((textR (rq (madeR l))):List UInt8).length:Int))+(1:Int))))).toNat)))]:List (List UInt8)),u.length≤1000:=by
 obtain ⟨t,ht,hlen,hok,hpar⟩:=qG l
 have hw:=wr64 (n:=(t.length:Int)+1) (by omega)
 have hm:=zaJ (n:=pl) (m:=(t.length:Int)+1) (by omega) (by omega)
 try simp only [ht,hok,hpar,hw]
 try generalize modI pl ((t.length:Int)+1)=m at hm ⊢
 have h60:(if (60:Int)<(s.length:Int) then (60:Int) else (s.length:Int)).toNat≤60:=by split<;>omega
 generalize (if (60:Int)<(s.length:Int) then (60:Int) else (s.length:Int)).toNat=n at h60 ⊢
 intro u hu
 simp only [List.mem_cons,List.not_mem_nil,or_false] at hu
 rcases hu with rfl | rfl | rfl | rfl | rfl | rfl<;>simp only [List.length_append,List.length_take,List.length_drop,List.length_cons,List.length_nil]<;>omega
theorem zkt {w0:World} (l:(List Int)) (raw:RR) (s:(List UInt8)) (pl:Int) (hM:∀W,Below w0.heap.size w0 W→MaxT W) (hTS:∀W,Below w0.heap.size w0 W→PowT w0.heap.size W∧SynT w0.heap.size W) (v1:Bool) (v2:RR) (v3:Int) (v4:Int) (n5:Nat) (v7:(List UInt8)) (v9:RR) (v10:(List UInt8)) (v11:RR) (v12:Bool) (v14:(List UInt8)) (v15:Bool) (v17:(List UInt8)) (v18:(List UInt8)) (v19:Bool) (v21:Bool) (v23:Bool) (v24:Bool) (v26:Int) (v27:Int) (v28:Int) (n29:Nat) (v31:(List UInt8)) (n33:Nat) (v35:(List UInt8)) (v37:(List UInt8)) (n39:Nat) (v41:(List UInt8)) (v43:(List UInt8)) (v45:(List UInt8)) (v47:(List UInt8)) (n49:Nat) (v51:(List UInt8)) (v53:(List UInt8)) (n55:Nat) (v57:(List UInt8)) (v59:(List UInt8)) (v61:(List (List UInt8))) (v62:Int) (e1:(true)=v1) (e2:(zJ raw)=v2) (e3:(((s:List UInt8).length:Int))=v3) (e4:((if (60:Int)<v3 then (60:Int) else v3))=v4) (e7:((s:List UInt8).take n5)=v7) (e9:(rq (madeR l))=v9) (e10:(textR v9)=v10) (e11:(parR v10)=v11) (e12:(okP v10)=v12) (e14:(textR v9)=v14) (e15:(!((v10:List UInt8) == v14))=v15) (e17:(textR v2)=v17) (e18:(textR v2)=v18) (e19:(!((v17:List UInt8) == v18))=v19) (e21:(!v12)=v21) (e23:(decide (v9=v11))=v23) (e24:(!v23)=v24) (e26:(((v10:List UInt8).length:Int))=v26) (e27:(IntKind.i64.wrap (v26+(1:Int)))=v27) (e28:(modI pl v27)=v28) (e31:((v10:List UInt8).take n29)=v31) (e35:((v10:List UInt8).take n33)=v35) (e37:(v35++v7)=v37) (e41:((v10:List UInt8).drop n39)=v41) (e43:(v37++v41)=v43) (e45:(v10++[47,49])=v45) (e47:([48]++v10)=v47) (e51:((v10:List UInt8).drop n49)=v51) (e53:(v51++[47])=v53) (e57:((v10:List UInt8).take n55)=v57) (e59:(v53++v57)=v59) (e61:(([v7,v31,v43,v45,v47,v59]:List (List UInt8)))=v61) (e62:((v61.length:Int))=v62) (s6:v4=(n5:Int)) (s8:n5≤(s:List UInt8).length) (s13:(v10:List UInt8).length<4294967281) (h16:v15=false) (h20:v19=false) (h22:v21=false) (h25:v24=false) (s30:v28=(n29:Int)) (s32:n29≤(v10:List UInt8).length) (s34:v28=(n33:Int)) (s36:n33≤(v10:List UInt8).length) (s38:(((v35:List UInt8).length+(v7:List UInt8).length:Nat):Int)≤9223372036854775807) (s40:v28=(n39:Int)) (s42:n39≤(v10:List UInt8).length) (s44:(((v37:List UInt8).length+(v41:List UInt8).length:Nat):Int)≤9223372036854775807) (s46:(((v10:List UInt8).length+([47,49]:List UInt8).length:Nat):Int)≤9223372036854775807) (s48:((([48]:List UInt8).length+(v10:List UInt8).length:Nat):Int)≤9223372036854775807) (s50:v28=(n49:Int)) (s52:n49≤(v10:List UInt8).length) (s54:(((v51:List UInt8).length+([47]:List UInt8).length:Nat):Int)≤9223372036854775807) (s56:v28=(n55:Int)) (s58:n55≤(v10:List UInt8).length) (s60:(((v53:List UInt8).length+(v57:List UInt8).length:Nat):Int)≤9223372036854775807) (L_txt:∀R:Frm,R.pm=⟨ntOf Tryz.prog 6,[],[]⟩→zB (KN w0) Tryz.prog (FL [pLs cI l,pB raw.1.1,pD raw.1.2,pB raw.2.1,pD raw.2.2,pS s,pI pl,pB v1,pB v2.1.1,pD v2.1.2,pB v2.2.1,pD v2.2.2,pI v3,pI v4,pS v7,pB v9.1.1,pD v9.1.2,pB v9.2.1,pD v9.2.2,pS v10,pB v11.1.1,pD v11.1.2,pB v11.2.1,pD v11.2.2,pB v12,pS v14,pB v15,pS v17,pS v18,pB v19,pB v21,pB v23,pB v24,pI v26,pI v27,pI v28,pS v31,pS v35,pS v37,pS v41,pS v43,pS v45,pS v47,pS v51,pS v53,pS v57,pS v59,pLs cS v61,pI v62] []) R txt_S (lp Tryz.prog 6 0)):Fun (KN w0) Tryz.prog 6 [.o (.c (pLs cI l)),.o (.g [pB raw.1.1,pD raw.1.2,pB raw.2.1,pD raw.2.2]),.o (.c (pS s)),.o (.c (pI pl))] (.o (.c (pB v1))):=
 zi (zac (F:=FL [pLs cI l,pB raw.1.1,pD raw.1.2,pB raw.2.1,pD raw.2.2,pS s,pI pl,pB v1,pB v2.1.1,pD v2.1.2,pB v2.2.1,pD v2.2.2,pI v3,pI v4,pS v7,pB v9.1.1,pD v9.1.2,pB v9.2.1,pD v9.2.2,pS v10,pB v11.1.1,pD v11.1.2,pB v11.2.1,pD v11.2.2,pB v12,pS v14,pB v15,pS v17,pS v18,pB v19,pB v21,pB v23,pB v24,pI v26,pI v27,pI v28,pS v31,pS v35,pS v37,pS v41,pS v43,pS v45,pS v47,pS v51,pS v53,pS v57,pS v59,pLs cS v61,pI v62] []) (C:=((1000002,.call ⟨10,[],[],.o (.c (.h 7)),[]⟩) ::
  (1000005,.call ⟨11,[.o (.g [.h 1,.h 2,.h 3,.h 4])],[],.o (.g [.h 8,.h 9,.h 10,.h 11]),[]⟩) ::
  (1000009,.op (.len [9] 3) [LF (.h 5)] [] (LF (.h 12))) ::
  (1000010,.op (.min [3,3] 3) [LF (.h 12),LF (.k (.int .i64 60))] [] (LF (.h 13))) ::
  (1000011,.op (.sc 9 false true false) [LF (.h 5),LF (.h 13)] [] (LF (.h 14))) ::
  (1000014,.call ⟨12,[.o (.c (.h 0))],[],.o (.g [.h 15,.h 16,.h 17,.h 18]),[]⟩) ::
  (1000018,.call ⟨27,[.o (.g [.h 15,.h 16,.h 17,.h 18])],[],.o (.c (.h 19)),[]⟩) ::
  (1000021,.call ⟨28,[.o (.c (.h 19))],[],.t [.g [.h 20,.h 21,.h 22,.h 23],.c (.h 24)],[]⟩) ::
  (1000030,.call ⟨29,[.o (.g [.h 15,.h 16,.h 17,.h 18])],[],.o (.c (.h 25)),[]⟩) ::
  (1000031,.bin .neq 9 (LF (.h 19)) (LF (.h 25)) (LF (.h 26))) ::
  (10026,.fb 26 false) ::
  (1000034,.call ⟨27,[.o (.g [.h 8,.h 9,.h 10,.h 11])],[],.o (.c (.h 27)),[]⟩) ::
  (1000036,.call ⟨29,[.o (.g [.h 8,.h 9,.h 10,.h 11])],[],.o (.c (.h 28)),[]⟩) ::
  (1000037,.bin .neq 9 (LF (.h 27)) (LF (.h 28)) (LF (.h 29))) ::
  (10029,.fb 29 false) ::
  (1000041,.un .not (LF (.h 24)) (LF (.h 30))) ::
  (10030,.fb 30 false) ::
  (1000046,.call ⟨17,[.o (.g [.h 15,.h 16,.h 17,.h 18]),.o (.g [.h 20,.h 21,.h 22,.h 23])],[],.o (.c (.h 31)),[]⟩) ::
  (1000047,.un .not (LF (.h 31)) (LF (.h 32))) ::
  (10032,.fb 32 false) ::
  (1000051,.op (.len [9] 3) [LF (.h 19)] [] (LF (.h 33))) ::
  (1000052,.bin .add 3 (LF (.h 33)) (LF (.k (.int .i64 1))) (LF (.h 34))) ::
  (1000053,.call ⟨30,[.o (.c (.h 6)),.o (.c (.h 34))],[],.o (.c (.h 35)),[]⟩) ::
  (1000058,.op (.sc 9 false true false) [LF (.h 19),LF (.h 35)] [] (LF (.h 36))) ::
  (1000061,.op (.sc 9 false true false) [LF (.h 19),LF (.h 35)] [] (LF (.h 37))) ::
  (1000063,.bin .add 9 (LF (.h 37)) (LF (.h 14)) (LF (.h 38))) ::
  (1000066,.op (.sc 9 true false false) [LF (.h 19),LF (.h 35)] [] (LF (.h 39))) ::
  (1000067,.bin .add 9 (LF (.h 38)) (LF (.h 39)) (LF (.h 40))) ::
  (1000069,.bin .add 9 (LF (.h 19)) (LF (.k (.string ⟨#[47,49]⟩))) (LF (.h 41))) ::
  (1000071,.bin .add 9 (LF (.k (.string ⟨#[48]⟩))) (LF (.h 19)) (LF (.h 42))) ::
  (1000074,.op (.sc 9 true false false) [LF (.h 19),LF (.h 35)] [] (LF (.h 43))) ::
  (1000075,.bin .add 9 (LF (.h 43)) (LF (.k (.string ⟨#[47]⟩))) (LF (.h 44))) ::
  (1000078,.op (.sc 9 false true false) [LF (.h 19),LF (.h 35)] [] (LF (.h 45))) ::
  (1000079,.bin .add 9 (LF (.h 44)) (LF (.h 45)) (LF (.h 46))) ::
  (1000080,.dat 9 6 [.h 14,.h 36,.h 40,.h 41,.h 42,.h 46] 47) ::
  (1000081,.op (.len [46] 3) [LF (.h 47)] [] (LF (.h 48)))::[]:List (Nat×Ent))) (k:=⟨6,[.o (.c (.h 0)),.o (.g [.h 1,.h 2,.h 3,.h 4]),.o (.c (.h 5)),.o (.c (.h 6))],[],.o (.c (.h 7)),[]⟩) ⟨[txt_S],[],0⟩ [] 0 (zm ⟨(zC zE),za rfl,ze,za rfl,ze,za rfl,za rfl,za rfl,za rfl,ze,za rfl,ze,za rfl,za rfl,za rfl,za rfl,ze,za rfl,ze,za rfl,za rfl,ze,za rfl,ze,za rfl,za rfl,za rfl,za rfl,za rfl,za rfl,za rfl,za rfl,za rfl,za rfl,za rfl,za rfl,za rfl,za rfl,za rfl,za rfl,za rfl,za rfl,za rfl,za rfl,za rfl,za rfl,za rfl,(zC zep),za rfl,trivial⟩) ⟨zc (qE hM hTS  v1 e1) rfl rfl rfl rfl,
  zc (zlo raw v2 e2) rfl rfl rfl rfl,
  e_op1 (zb rfl) (zb rfl) (fun W=>by rw [← e3];exact zbX (by kernel_rfl) W),
  e_op2 (zb rfl) zg (zb rfl) (fun W=>by rw [← e4];exact zbd W),
  e_op2 (zb rfl) (zb rfl) (zb rfl) (fun W=>by rw [← e7];exact zb9 (by kernel_rfl) s6 s8 W),
  zc (qL l v9 e9) rfl rfl rfl rfl,
  zc (zcn (fun W h=>(hTS W h).1) v9 v10 e10) rfl rfl rfl rfl,
  zc (zc9 hM hTS v10 v11 v12 e11 e12 s13) rfl rfl rfl rfl,
  zc (zbD v9 v14 e14) rfl rfl rfl rfl,
  e_bin (zb rfl) (zb rfl) (zb rfl) (fun W X Y=>by rw [← e15];exact r_sne W X Y),
  e_fb (show pV (.bool v15)=_ by rw [h16]),
  zc (zcn (fun W h=>(hTS W h).1) v2 v17 e17) rfl rfl rfl rfl,
  zc (zbD v2 v18 e18) rfl rfl rfl rfl,
  e_bin (zb rfl) (zb rfl) (zb rfl) (fun W X Y=>by rw [← e19];exact r_sne W X Y),
  e_fb (show pV (.bool v19)=_ by rw [h20]),
  e_un (zb rfl) (zb rfl) (fun W=>by rw [← e21];exact r_not W),
  e_fb (show pV (.bool v21)=_ by rw [h22]),
  zc (zY v9 v11 v23 e23) rfl rfl rfl rfl,
  e_un (zb rfl) (zb rfl) (fun W=>by rw [← e24];exact r_not W),
  e_fb (show pV (.bool v24)=_ by rw [h25]),
  e_op1 (zb rfl) (zb rfl) (fun W=>by rw [← e26];exact zbX (by kernel_rfl) W),
  e_bin (zb rfl) zg (zb rfl) (r_ar (congrArg some e27)),
  zc (f_mod pl v27 v28 e28) rfl rfl rfl rfl,
  e_op2 (zb rfl) (zb rfl) (zb rfl) (fun W=>by rw [← e31];exact zb9 (by kernel_rfl) s30 s32 W),
  e_op2 (zb rfl) (zb rfl) (zb rfl) (fun W=>by rw [← e35];exact zb9 (by kernel_rfl) s34 s36 W),
  e_bin (zb rfl) (zb rfl) (zb rfl) (fun W X Y=>by rw [← e37];exact r_cat s38 W X Y),
  e_op2 (zb rfl) (zb rfl) (zb rfl) (fun W=>by rw [← e41];exact zfZ (by kernel_rfl) s40 s42 W),
  e_bin (zb rfl) (zb rfl) (zb rfl) (fun W X Y=>by rw [← e43];exact r_cat s44 W X Y),
  e_bin (zb rfl) zg (zb rfl) (fun W X Y=>by rw [← e45];exact r_cat s46 W X Y),
  e_bin zg (zb rfl) (zb rfl) (fun W X Y=>by rw [← e47];exact r_cat s48 W X Y),
  e_op2 (zb rfl) (zb rfl) (zb rfl) (fun W=>by rw [← e51];exact zfZ (by kernel_rfl) s50 s52 W),
  e_bin (zb rfl) zg (zb rfl) (fun W X Y=>by rw [← e53];exact r_cat s54 W X Y),
  e_op2 (zb rfl) (zb rfl) (zb rfl) (fun W=>by rw [← e57];exact zb9 (by kernel_rfl) s56 s58 W),
  e_bin (zb rfl) (zb rfl) (zb rfl) (fun W X Y=>by rw [← e59];exact r_cat s60 W X Y),
  e_dat (c:=cS) (ps:=(pS v7::pS v31::pS v43::pS v45::pS v47::pS v59::[])) (qs:=(pS v7::pS v31::pS v43::pS v45::pS v47::pS v59::[])) (by rw [← e61];rfl) rfl rfl rfl (pimps (fun _ _ _ h=>h) <| pimps (fun _ _ _ h=>h) <| pimps (fun _ _ _ h=>h) <| pimps (fun _ _ _ h=>h) <| pimps (fun _ _ _ h=>h) <| pimps (fun _ _ _ h=>h) <| zkD) rfl,
  zaP (E:=9) (by kernel_rfl) (zd rfl) (zb (by rw [← e62];rfl)),
  trivial⟩ mixed trivial (fun R hR p hp s hs=>by
 have hl:qm (zat Tryz.prog 6)=[(11,lp Tryz.prog 6 0)]:=by kernel_rfl
 rw [hl] at hp
 simp only [List.mem_cons,List.not_mem_nil,or_false] at hp
 rcases hp with rfl
 ·have e:s=txt_S:=(Option.some.inj hs).symm
  subst e;exact L_txt R hR) (by kernel_rfl)) rfl rfl rfl rfl
theorem zkp (l:(List Int)) (raw:RR) (s:(List UInt8)) (pl:Int) (i1:s.length≤9223372036854775807) (i2:InR pl) :((if (60:Int)<(((s:List UInt8).length:Int)) then (60:Int) else (((s:List UInt8).length:Int))))=(((((if (60:Int)<(((s:List UInt8).length:Int)) then (60:Int) else (((s:List UInt8).length:Int))))).toNat):Int):=by
 obtain ⟨t,ht,hlen,hok,hpar⟩:=qG l
 have hw:=wr64 (n:=(t.length:Int)+1) (by omega)
 have hm:=zaJ (n:=pl) (m:=(t.length:Int)+1) (by omega) (by omega)
 try simp only [ht,hok,hpar,hw]
 try generalize modI pl ((t.length:Int)+1)=m at hm ⊢
 first
  | (split<;>omega)
  | omega
  | (simp only [List.length_append,List.length_take,List.length_drop,List.length_cons,List.length_nil];omega)
  | (simp;done)
  | (simp only [List.length_append,List.length_take,List.length_drop,List.length_cons,List.length_nil];split<;>omega)
theorem zkq (l:(List Int)) (raw:RR) (s:(List UInt8)) (pl:Int) (i1:s.length≤9223372036854775807) (i2:InR pl) :((((if (60:Int)<(((s:List UInt8).length:Int)) then (60:Int) else (((s:List UInt8).length:Int))))).toNat)≤(s:List UInt8).length:=by
 obtain ⟨t,ht,hlen,hok,hpar⟩:=qG l
 have hw:=wr64 (n:=(t.length:Int)+1) (by omega)
 have hm:=zaJ (n:=pl) (m:=(t.length:Int)+1) (by omega) (by omega)
 try simp only [ht,hok,hpar,hw]
 try generalize modI pl ((t.length:Int)+1)=m at hm ⊢
 first
  | (split<;>omega)
  | omega
  | (simp only [List.length_append,List.length_take,List.length_drop,List.length_cons,List.length_nil];omega)
  | (simp;done)
  | (simp only [List.length_append,List.length_take,List.length_drop,List.length_cons,List.length_nil];split<;>omega)
theorem zkr (l:(List Int)) (raw:RR) (s:(List UInt8)) (pl:Int) (i1:s.length≤9223372036854775807) (i2:InR pl) :((textR (rq (madeR l))):List UInt8).length<4294967281:=by
 obtain ⟨t,ht,hlen,hok,hpar⟩:=qG l
 have hw:=wr64 (n:=(t.length:Int)+1) (by omega)
 have hm:=zaJ (n:=pl) (m:=(t.length:Int)+1) (by omega) (by omega)
 try simp only [ht,hok,hpar,hw]
 try generalize modI pl ((t.length:Int)+1)=m at hm ⊢
 first
  | (split<;>omega)
  | omega
  | (simp only [List.length_append,List.length_take,List.length_drop,List.length_cons,List.length_nil];omega)
  | (simp;done)
  | (simp only [List.length_append,List.length_take,List.length_drop,List.length_cons,List.length_nil];split<;>omega)
theorem ze0 (l:(List Int)) (raw:RR) (s:(List UInt8)) (pl:Int) (i1:s.length≤9223372036854775807) (i2:InR pl) :((!(((textR (rq (madeR l))):List UInt8) == (textR (rq (madeR l))))))=false:=by
 obtain ⟨t,ht,hlen,hok,hpar⟩:=qG l
 have hw:=wr64 (n:=(t.length:Int)+1) (by omega)
 have hm:=zaJ (n:=pl) (m:=(t.length:Int)+1) (by omega) (by omega)
 try simp only [ht,hok,hpar,hw]
 try generalize modI pl ((t.length:Int)+1)=m at hm ⊢
 first
  | (split<;>omega)
  | omega
  | (simp only [List.length_append,List.length_take,List.length_drop,List.length_cons,List.length_nil];omega)
  | (simp;done)
  | (simp only [List.length_append,List.length_take,List.length_drop,List.length_cons,List.length_nil];split<;>omega)
theorem ze1 (l:(List Int)) (raw:RR) (s:(List UInt8)) (pl:Int) (i1:s.length≤9223372036854775807) (i2:InR pl) :((!(((textR (zJ raw)):List UInt8) == (textR (zJ raw)))))=false:=by simp
theorem ze2 (l:(List Int)) (raw:RR) (s:(List UInt8)) (pl:Int) (i1:s.length≤9223372036854775807) (i2:InR pl) :((!(okP (textR (rq (madeR l))))))=false:=by
 obtain ⟨t,ht,hlen,hok,hpar⟩:=qG l
 have hw:=wr64 (n:=(t.length:Int)+1) (by omega)
 have hm:=zaJ (n:=pl) (m:=(t.length:Int)+1) (by omega) (by omega)
 try simp only [ht,hok,hpar,hw]
 try generalize modI pl ((t.length:Int)+1)=m at hm ⊢
 first
  | (split<;>omega)
  | omega
  | (simp only [List.length_append,List.length_take,List.length_drop,List.length_cons,List.length_nil];omega)
  | (simp;done)
  | (simp only [List.length_append,List.length_take,List.length_drop,List.length_cons,List.length_nil];split<;>omega)
theorem ze3 (l:(List Int)) (raw:RR) (s:(List UInt8)) (pl:Int) (i1:s.length≤9223372036854775807) (i2:InR pl) :((!(decide ((rq (madeR l))=(parR (textR (rq (madeR l))))))))=false:=by
 obtain ⟨t,ht,hlen,hok,hpar⟩:=qG l
 have hw:=wr64 (n:=(t.length:Int)+1) (by omega)
 have hm:=zaJ (n:=pl) (m:=(t.length:Int)+1) (by omega) (by omega)
 try simp only [ht,hok,hpar,hw]
 try generalize modI pl ((t.length:Int)+1)=m at hm ⊢
 first
  | (split<;>omega)
  | omega
  | (simp only [List.length_append,List.length_take,List.length_drop,List.length_cons,List.length_nil];omega)
  | (simp;done)
  | (simp only [List.length_append,List.length_take,List.length_drop,List.length_cons,List.length_nil];split<;>omega)
theorem zbo (l:(List Int)) (raw:RR) (s:(List UInt8)) (pl:Int) (i1:s.length≤9223372036854775807) (i2:InR pl) :(modI pl (IntKind.i64.wrap (((((textR (rq (madeR l))):List UInt8).length:Int))+(1:Int))))=((((modI pl (IntKind.i64.wrap (((((textR (rq (madeR l))):List UInt8).length:Int))+(1:Int))))).toNat):Int):=by
 obtain ⟨t,ht,hlen,hok,hpar⟩:=qG l
 have hw:=wr64 (n:=(t.length:Int)+1) (by omega)
 have hm:=zaJ (n:=pl) (m:=(t.length:Int)+1) (by omega) (by omega)
 try simp only [ht,hok,hpar,hw]
 try generalize modI pl ((t.length:Int)+1)=m at hm ⊢
 first
  | (split<;>omega)
  | omega
  | (simp only [List.length_append,List.length_take,List.length_drop,List.length_cons,List.length_nil];omega)
  | (simp;done)
  | (simp only [List.length_append,List.length_take,List.length_drop,List.length_cons,List.length_nil];split<;>omega)
theorem zbp (l:(List Int)) (raw:RR) (s:(List UInt8)) (pl:Int) (i1:s.length≤9223372036854775807) (i2:InR pl) :(((modI pl (IntKind.i64.wrap (((((textR (rq (madeR l))):List UInt8).length:Int))+(1:Int))))).toNat)≤((textR (rq (madeR l))):List UInt8).length:=by
 obtain ⟨t,ht,hlen,hok,hpar⟩:=qG l
 have hw:=wr64 (n:=(t.length:Int)+1) (by omega)
 have hm:=zaJ (n:=pl) (m:=(t.length:Int)+1) (by omega) (by omega)
 try simp only [ht,hok,hpar,hw]
 try generalize modI pl ((t.length:Int)+1)=m at hm ⊢
 first
  | (split<;>omega)
  | omega
  | (simp only [List.length_append,List.length_take,List.length_drop,List.length_cons,List.length_nil];omega)
  | (simp;done)
  | (simp only [List.length_append,List.length_take,List.length_drop,List.length_cons,List.length_nil];split<;>omega)
theorem zks (l:(List Int)) (raw:RR) (s:(List UInt8)) (pl:Int) (i1:s.length≤9223372036854775807) (i2:InR pl) :((((((textR (rq (madeR l))):List UInt8).take (((modI pl (IntKind.i64.wrap (((((textR (rq (madeR l))):List UInt8).length:Int))+(1:Int))))).toNat)):List UInt8).length+(((s:List UInt8).take ((((if (60:Int)<(((s:List UInt8).length:Int)) then (60:Int) else (((s:List UInt8).length:Int))))).toNat)):List UInt8).length:Nat):Int)≤9223372036854775807:=by
 obtain ⟨t,ht,hlen,hok,hpar⟩:=qG l
 have hw:=wr64 (n:=(t.length:Int)+1) (by omega)
 have hm:=zaJ (n:=pl) (m:=(t.length:Int)+1) (by omega) (by omega)
 try simp only [ht,hok,hpar,hw]
 try generalize modI pl ((t.length:Int)+1)=m at hm ⊢
 first
  | (split<;>omega)
  | omega
  | (simp only [List.length_append,List.length_take,List.length_drop,List.length_cons,List.length_nil];omega)
  | (simp;done)
  | (simp only [List.length_append,List.length_take,List.length_drop,List.length_cons,List.length_nil];split<;>omega)
theorem ziV (l:(List Int)) (raw:RR) (s:(List UInt8)) (pl:Int) (i1:s.length≤9223372036854775807) (i2:InR pl) :(((((((textR (rq (madeR l))):List UInt8).take (((modI pl (IntKind.i64.wrap (((((textR (rq (madeR l))):List UInt8).length:Int))+(1:Int))))).toNat))++((s:List UInt8).take ((((if (60:Int)<(((s:List UInt8).length:Int)) then (60:Int) else (((s:List UInt8).length:Int))))).toNat))):List UInt8).length+((((textR (rq (madeR l))):List UInt8).drop (((modI pl (IntKind.i64.wrap (((((textR (rq (madeR l))):List UInt8).length:Int))+(1:Int))))).toNat)):List UInt8).length:Nat):Int)≤9223372036854775807:=by
 obtain ⟨t,ht,hlen,hok,hpar⟩:=qG l
 have hw:=wr64 (n:=(t.length:Int)+1) (by omega)
 have hm:=zaJ (n:=pl) (m:=(t.length:Int)+1) (by omega) (by omega)
 try simp only [ht,hok,hpar,hw]
 try generalize modI pl ((t.length:Int)+1)=m at hm ⊢
 first
  | (split<;>omega)
  | omega
  | (simp only [List.length_append,List.length_take,List.length_drop,List.length_cons,List.length_nil];omega)
  | (simp;done)
  | (simp only [List.length_append,List.length_take,List.length_drop,List.length_cons,List.length_nil];split<;>omega)
theorem ziW (l:(List Int)) (raw:RR) (s:(List UInt8)) (pl:Int) (i1:s.length≤9223372036854775807) (i2:InR pl) :((((textR (rq (madeR l))):List UInt8).length+([47,49]:List UInt8).length:Nat):Int)≤9223372036854775807:=by
 obtain ⟨t,ht,hlen,hok,hpar⟩:=qG l
 have hw:=wr64 (n:=(t.length:Int)+1) (by omega)
 have hm:=zaJ (n:=pl) (m:=(t.length:Int)+1) (by omega) (by omega)
 try simp only [ht,hok,hpar,hw]
 try generalize modI pl ((t.length:Int)+1)=m at hm ⊢
 first
  | (split<;>omega)
  | omega
  | (simp only [List.length_append,List.length_take,List.length_drop,List.length_cons,List.length_nil];omega)
  | (simp;done)
  | (simp only [List.length_append,List.length_take,List.length_drop,List.length_cons,List.length_nil];split<;>omega)
theorem ziX (l:(List Int)) (raw:RR) (s:(List UInt8)) (pl:Int) (i1:s.length≤9223372036854775807) (i2:InR pl) :((([48]:List UInt8).length+((textR (rq (madeR l))):List UInt8).length:Nat):Int)≤9223372036854775807:=by
 obtain ⟨t,ht,hlen,hok,hpar⟩:=qG l
 have hw:=wr64 (n:=(t.length:Int)+1) (by omega)
 have hm:=zaJ (n:=pl) (m:=(t.length:Int)+1) (by omega) (by omega)
 try simp only [ht,hok,hpar,hw]
 try generalize modI pl ((t.length:Int)+1)=m at hm ⊢
 first
  | (split<;>omega)
  | omega
  | (simp only [List.length_append,List.length_take,List.length_drop,List.length_cons,List.length_nil];omega)
  | (simp;done)
  | (simp only [List.length_append,List.length_take,List.length_drop,List.length_cons,List.length_nil];split<;>omega)
theorem ziY (l:(List Int)) (raw:RR) (s:(List UInt8)) (pl:Int) (i1:s.length≤9223372036854775807) (i2:InR pl) :((((((textR (rq (madeR l))):List UInt8).drop (((modI pl (IntKind.i64.wrap (((((textR (rq (madeR l))):List UInt8).length:Int))+(1:Int))))).toNat)):List UInt8).length+([47]:List UInt8).length:Nat):Int)≤9223372036854775807:=by
 obtain ⟨t,ht,hlen,hok,hpar⟩:=qG l
 have hw:=wr64 (n:=(t.length:Int)+1) (by omega)
 have hm:=zaJ (n:=pl) (m:=(t.length:Int)+1) (by omega) (by omega)
 try simp only [ht,hok,hpar,hw]
 try generalize modI pl ((t.length:Int)+1)=m at hm ⊢
 first
  | (split<;>omega)
  | omega
  | (simp only [List.length_append,List.length_take,List.length_drop,List.length_cons,List.length_nil];omega)
  | (simp;done)
  | (simp only [List.length_append,List.length_take,List.length_drop,List.length_cons,List.length_nil];split<;>omega)
theorem ziZ (l:(List Int)) (raw:RR) (s:(List UInt8)) (pl:Int) (i1:s.length≤9223372036854775807) (i2:InR pl) :(((((((textR (rq (madeR l))):List UInt8).drop (((modI pl (IntKind.i64.wrap (((((textR (rq (madeR l))):List UInt8).length:Int))+(1:Int))))).toNat))++[47]):List UInt8).length+((((textR (rq (madeR l))):List UInt8).take (((modI pl (IntKind.i64.wrap (((((textR (rq (madeR l))):List UInt8).length:Int))+(1:Int))))).toNat)):List UInt8).length:Nat):Int)≤9223372036854775807:=by
 obtain ⟨t,ht,hlen,hok,hpar⟩:=qG l
 have hw:=wr64 (n:=(t.length:Int)+1) (by omega)
 have hm:=zaJ (n:=pl) (m:=(t.length:Int)+1) (by omega) (by omega)
 try simp only [ht,hok,hpar,hw]
 try generalize modI pl ((t.length:Int)+1)=m at hm ⊢
 first
  | (split<;>omega)
  | omega
  | (simp only [List.length_append,List.length_take,List.length_drop,List.length_cons,List.length_nil];omega)
  | (simp;done)
  | (simp only [List.length_append,List.length_take,List.length_drop,List.length_cons,List.length_nil];split<;>omega)
theorem zi0 (l:(List Int)) (raw:RR) (s:(List UInt8)) (pl:Int) (i1:s.length≤9223372036854775807) (i2:InR pl) :true=true:=by simp
theorem zoQ {w0:World} (hM:∀W,Below w0.heap.size w0 W→MaxT W) (hTS:∀W,Below w0.heap.size w0 W→PowT w0.heap.size W∧SynT w0.heap.size W) (l:(List Int)) (raw:RR) (s:(List UInt8)) (pl:Int) (i1:s.length≤9223372036854775807) (i2:InR pl):Fun (KN w0) Tryz.prog 6 [.o (.c (pLs cI l)),.o (.g [pB raw.1.1,pD raw.1.2,pB raw.2.1,pD raw.2.2]),.o (.c (pS s)),.o (.c (pI pl))] (.o (.c (pV (.bool true)))):=by
 exact zkt l raw s pl hM hTS _ _ _ _ ((((if (60:Int)<(((s:List UInt8).length:Int)) then (60:Int) else (((s:List UInt8).length:Int))))).toNat) _ _ _ _ _ _ _ _ _ _ _ _ _ _ _ _ (((modI pl (IntKind.i64.wrap (((((textR (rq (madeR l))):List UInt8).length:Int))+(1:Int))))).toNat) _ (((modI pl (IntKind.i64.wrap (((((textR (rq (madeR l))):List UInt8).length:Int))+(1:Int))))).toNat) _ _ (((modI pl (IntKind.i64.wrap (((((textR (rq (madeR l))):List UInt8).length:Int))+(1:Int))))).toNat) _ _ _ _ (((modI pl (IntKind.i64.wrap (((((textR (rq (madeR l))):List UInt8).length:Int))+(1:Int))))).toNat) _ _ (((modI pl (IntKind.i64.wrap (((((textR (rq (madeR l))):List UInt8).length:Int))+(1:Int))))).toNat) _ _ _ _ (zi0 l raw s pl i1 i2 ) rfl rfl rfl rfl rfl rfl rfl rfl rfl rfl rfl rfl rfl rfl rfl rfl rfl rfl rfl rfl rfl rfl rfl rfl rfl rfl rfl rfl rfl rfl rfl rfl (zkp l raw s pl i1 i2 ) (zkq l raw s pl i1 i2 ) (zkr l raw s pl i1 i2 ) (ze0 l raw s pl i1 i2 ) (ze1 l raw s pl i1 i2 ) (ze2 l raw s pl i1 i2 ) (ze3 l raw s pl i1 i2 ) (zbo l raw s pl i1 i2 ) (zbp l raw s pl i1 i2 ) (zbo l raw s pl i1 i2 ) (zbp l raw s pl i1 i2 ) (zks l raw s pl i1 i2 ) (zbo l raw s pl i1 i2 ) (zbp l raw s pl i1 i2 ) (ziV l raw s pl i1 i2 ) (ziW l raw s pl i1 i2 ) (ziX l raw s pl i1 i2 ) (zbo l raw s pl i1 i2 ) (zbp l raw s pl i1 i2 ) (ziY l raw s pl i1 i2 ) (zbo l raw s pl i1 i2 ) (zbp l raw s pl i1 i2 ) (ziZ l raw s pl i1 i2 ) (fun R hR=>zw7 hM hTS l raw s pl _ _ _ _ ((((if (60:Int)<(((s:List UInt8).length:Int)) then (60:Int) else (((s:List UInt8).length:Int))))).toNat) _ _ _ _ _ _ _ _ _ _ _ _ _ _ _ _ (((modI pl (IntKind.i64.wrap (((((textR (rq (madeR l))):List UInt8).length:Int))+(1:Int))))).toNat) _ (((modI pl (IntKind.i64.wrap (((((textR (rq (madeR l))):List UInt8).length:Int))+(1:Int))))).toNat) _ _ (((modI pl (IntKind.i64.wrap (((((textR (rq (madeR l))):List UInt8).length:Int))+(1:Int))))).toNat) _ _ _ _ (((modI pl (IntKind.i64.wrap (((((textR (rq (madeR l))):List UInt8).length:Int))+(1:Int))))).toNat) _ _ (((modI pl (IntKind.i64.wrap (((((textR (rq (madeR l))):List UInt8).length:Int))+(1:Int))))).toNat) _ _ _ _ (ze0 l raw s pl i1 i2 ) (ze1 l raw s pl i1 i2 ) (ze2 l raw s pl i1 i2 ) (ze3 l raw s pl i1 i2 )  rfl rfl rfl rfl rfl rfl rfl rfl rfl rfl rfl rfl rfl rfl rfl rfl rfl rfl rfl rfl rfl rfl rfl rfl rfl rfl rfl rfl rfl rfl rfl rfl rfl rfl rfl rfl rfl rfl rfl rfl rfl rfl rfl rfl rfl rfl rfl rfl rfl R hR (zsC l raw s pl) rfl rfl)
end Go.Proofs.YtccjiodohphgnaaGreatDoor
namespace Go.Proofs.YtccjiodohphgnaaGreatDoor
open Go.ChangeShapes Go.WideShapes Go.ChangeAt Go.RowKit Go.Joins Go.Deep
theorem zeG (os:Os) (started:os.Started) (H:Type) (enc:TypeId×Value→H) :
  ReturnsInHanded {} Tryz.checked os 6 .any (fun w args=>(Rows.ratioTextsSpec.pre enc Tryz.prog Tryz.f6 [] false w args∧laidMetH Tryz.prog laidL w)∧sizedMet enc Tryz.prog Tryz.f6 (OpenSpec.ofChange Rows.ratioTextsSpec) false w args)
   (Rows.ratioTextsSpec.post enc Tryz.prog Tryz.f6 false true false false):=by
 refine zaM (C:=Tryz.checked) (X:=fun w _=>laidMetH Tryz.prog laidL w) (fun _ _ _ hh h=>h.of_heap hh) Tryz.own started (by kernel_rfl) Tryz.func6
  (ChangeSpec.witness_shaped (enc:=enc) (C:=Tryz.checked) (os:=os) (X:=fun w _=>laidMetH Tryz.prog laidL w) false (World.doorLaid Tryz.prog 400 os) #[.slice none 0 0,.agg #[.bool false,.slice none 0 0,.bool false,.slice none 0 0],.string ⟨#[]⟩,.int .i64 0] 8 rfl (World.shaped_of_RefB (by kernel_rfl) (by kernel_rfl)) (by kernel_rfl) (by kernel_rfl) (by kernel_rfl) (zck os _)) ?_
 intro W base args ds gs before hval0 hW hL hsh
 have hval:∀(j:Nat) t v,Tryz.f6.params[j]?=some t→args[j]?=some v→Value.okWide Tryz.prog W .any base t v:=hval0
 have hW':=hW
 obtain ⟨p,q,hA0,hV,rfl,hfz,hnd⟩:=hW
 have hA:DataW.TrodAll enc Tryz.prog W 0 (fun _=>true) true Tryz.f6.params.toList args.toList ds p:=hA0
 rw [Tryz.params6] at hA hval
 obtain ⟨v0,v1,v2,v3,d0,d1,d2,d3,p0,p1,p2,p3,rfl,rfl,rfl,h0,h1,h2,h3⟩:=trodAll_four hA
 obtain ⟨x0,s0⟩:=zpa (hval 0 22 v0 rfl rfl) h0
 obtain ⟨x1,s1⟩:=zpc (hval 1 28 v1 rfl rfl) h1
 obtain ⟨y2,rfl,rfl,rfl,w2⟩:=Go.ChangeMaps.open_string Tryz.underlying9 (hval 2 9 v2 rfl rfl) h2
 obtain ⟨x2,rfl⟩:∃t:List UInt8,y2=⟨t.toArray⟩:=⟨y2.data.toList,rfl⟩
 have s2:x2.length≤9223372036854775807:=w2
 obtain ⟨x3,rfl,rfl,rfl,w3⟩:=open_int Tryz.underlying3 (hval 3 3 v3 rfl rfl) h3
 have s3:=bounds_i64 w3
 refine (zdv (args:=#[v0,v1,.string ⟨x2.toArray⟩,.int .i64 x3]) (zoQ (zcq hsh) (zcp hL) x0 x1 x2 x3 s2 ⟨s3.1,by omega⟩) ⟨s0,s1,rfl,rfl,trivial⟩).mono fun e W' ⟨he,hb⟩=>?_
 subst he
 exact ⟨_,rfl,zaK rfl Tryz.laidOut (by decide +kernel) 4 (by kernel_rfl) Tryz.underlying4 (fun d hd=>by match d,hd with | [_,_,_,_],_=>rfl) hW' hb⟩
theorem zfg:Rows.RatioTextsSaid:=
 OpenClaim.holds_of_wide 6 Tryz.f6 rfl rfl rfl rfl rfl rfl rfl ⟨rfl,rfl,rfl,rfl,rfl⟩ rfl rfl rfl rfl rfl (by kernel_rfl) Tryz.func6 (by kernel_rfl)
  (of_decide_eq_true (by kernel_rfl)) (by unfold Func.isWrapper;rw [if_neg (of_decide_eq_false (by kernel_rfl))];exact ⟨rfl,rfl⟩)
  (fun os started H enc _=>zeG os started H enc)
theorem ratioTexts_card:Rows.RatioTextsCardSaid:=
 Claim7.holds_tied_plain_at .later [] [.data, .data, .data, .sentinel, .sentinel] true (true, "23681dedaca0e9c3ad04b644738b2c5c66df0499f44a887a8592b9d18a9871d5") true
  zfg (fun _ h=>by cases h) (by kernel_rfl) (fun _ h=>by cases h) ratioTexts_row_tie rfl ⟨rfl,rfl⟩ (by kernel_rfl) rfl
  (fun f fn hf hfn=>by
   obtain rfl : f = 6 := Option.some.inj ((show Tryz.prog.funcNamed "collet/colletlaw03.RatioTexts" = some 6 by kernel_rfl).symm.trans hf) |>.symm
   obtain rfl:fn=Tryz.f6:=(Option.some.inj (Tryz.func6.symm.trans hfn)).symm
   exact ⟨by kernel_rfl,fun j t ht=>by
    rw [Tryz.params6] at ht
    have hm:t∈[22,28,9,3]:=by simpa using Array.mem_of_getElem? ht
    have hall:([22,28,9,3].all fun u=>!Tryz.prog.wantsStandIn u)=true:=by kernel_rfl
    exact (show Tryz.prog.wantsStandIn t=false by simpa using List.all_eq_true.1 hall t hm)⟩)
  (by kernel_rfl)
end Go.Proofs.YtccjiodohphgnaaGreatDoor
