/-
  Merged: PlB, PlC, PbA, PbB, PbC, PbD, PbE.
-/
import Derived.Test.YteimplkdcjapdaaGreatDoorPuU
set_option linter.unusedSimpArgs false
set_option linter.unusedVariables false
set_option linter.unusedSectionVars false
set_option maxRecDepth 100000
namespace Go.Proofs.YteimplkdcjapdaaGreatDoor
open Go.RowKit
def expM:Vec→List Vec→List Int→List Mov
 | a,p::r,f::fs=>(if f=0 then 1 else 2,a,p,(0,0,0),f)::expM p r fs
 | _,_,_=>[]
theorem ziz {a p:Vec} {f:Int} {x:Mov} {tos:List Vec} {fs:List Int} {mv:List Mov} {k:Nat} (hp:tos[k]?=some p) (hf:fs[k]?=some f) (hx:mv[k]?=some x) (h:expM a (tos.drop k) (fs.drop k)=mv.drop k):x=(if f=0 then 1 else 2,a,p,(0,0,0),f)∧expM x.2.2.1 (tos.drop (k+1)) (fs.drop (k+1))=mv.drop (k+1):=by
 obtain ⟨h1,rfl⟩:=List.getElem?_eq_some_iff.1 hp
 obtain ⟨h2,rfl⟩:=List.getElem?_eq_some_iff.1 hf
 obtain ⟨h3,rfl⟩:=List.getElem?_eq_some_iff.1 hx
 rw [List.drop_eq_getElem_cons h1,List.drop_eq_getElem_cons h2,List.drop_eq_getElem_cons h3,expM] at h
 injection h with a1 a2
 exact ⟨a1.symm,by rw [← a1];exact a2⟩
def zmo:Tr:=.s [(2,.call 30 [1] (.o .c)),(4,.call 16 [2,LF (.k (.slice none 0 0)),.o (.g [kI 0,kI 0,kI 0])] (.t [.c,.c])),(12,.bin .eql 37 4 0),(0,.fb 5 true),(15,.ln 36 3 3),(16,.bin .eql 3 6 (kI 0))] (.z (.ret false (7) []))
theorem zaQ {w0:World} (hL:LibP w0) (want:Int) (l:List Stm) (h:zD (mainX l)=0) (hw:SbW (mainX l)) (hr:runP (mainX l) [] (0,0,0)=([],want)):Fun (KN w0) Tryz.prog 46 [.o (.c (pI want)),.o (.c (pLs cSt l))] (.o (.c (pB true))):=by
 refine tfn w0 46 ⟨[0,1],[],[],0,0⟩ ⟨2,[.ls 4 cSt kSt l,sI want],[],[]⟩ zmo (by kernel_rfl) ?_
 obtain ⟨v1,e1⟩:=LX (mainX l)
 refine cx (.o (.c (.ls 3 cSb kSb v1))) (zca l v1 e1) rfl ?_
 obtain ⟨v2,e2⟩:=LX ((runP v1 ([]:List Int) ((0:Int),(0:Int),(0:Int))).1)
 obtain ⟨v3,e3⟩:=LX ((runP v1 ([]:List Int) ((0:Int),(0:Int),(0:Int))).2)
 have s4:zD v1=0:=by (rw [← e1];exact h)
 have s5:SbW v1:=by (rw [← e1];exact hw)
 refine cx (.t [.c (.ls 11 cM kM v2),.c (sI v3)]) (Fun.imp (as2:=[.o (.c (pLs cSb v1)),.o (.c (pV (.slice none 0 0))),.o (.g [pV (.int .i64 0),pV (.int .i64 0),pV (.int .i64 0)])]) (zdA hL v1 ([]:List Int) ((0:Int),(0:Int),(0:Int)) v2 v3 e2 e3 s4 s5) (zaN ⟨fun _ _ _ h=>h,fun _ _ _ h=>nil_I _ _ _ h,fun _ _ _ h=>h,trivial⟩) (fun _ _ _ h=>h)) rfl ?_
 intro v6 e6
 have s7:v6=true:=by (rw [← e6,← e3,← e1,hr];exact beq_self_eq_true want)
 refine ai s7 ?_
 intro v8 e8 v9 e9
 intro hc
 refine Fun.fin (r:=.o (.c (pB v9))) (zc (hc)) (fun v W D h=>?_)
 have q:true=v9:=(by rw [← e9,← e8,← e2,← e1,hr];rfl)
 rw [q];exact h
def ze0:List Atom:=[.sl 1 1,.sl 2 2,.sl 9 (.o (.c (.p 26 0))),.sl 36 3,.sl 37 12,.sl 38 13,.bx 26 26 [.h 14,.h 15,.h 16]]
def zl0:LoopS:=⟨6,ze0.map (tnA (jf (hZ 13 [kI 0,kI 0,kI 0,kI 0])) (kf []) (kf [])),(.x 0),(drs [5,6] ze0)⟩
def zsh:Tr:=.s [(0,.fb 5 false),(0,.fb 8 false),(0,.fb 11 false),(6000,.bin .lss 3 13 12)] (.b 17 (.s [(6002,.ia 36 45 11 3 13),(6003,.ld 45 11 18),(6010,.ia 35 26 3 1 13),(6011,.ld 26 3 30),(6014,.ia 24 3 1 2 13),(6015,.ld 3 0 34),(6021,.ia 24 3 1 2 13),(6022,.ld 3 0 36),(6023,.bin .eql 3 37 (kI 0))] (.b 38 (.s [(0,.raw [(1006028,.bin .neq 45 (.o (.g [19,20,21,22,23,24,25,26,27,28,29])) (.o (.g [.k (.int .i64 1),14,15,16,31,32,33,.k (.int .i64 0),.k (.int .i64 0),.k (.int .i64 0),35])) 39)] 1),(0,.fb 39 false),(6032,.bin .add 3 13 (kI 1))] (.z (.nx (hZ 13 [40,23,24,25]) [] []))) (.s [(0,.raw [(1006026,.bin .neq 45 (.o (.g [19,20,21,22,23,24,25,26,27,28,29])) (.o (.g [.k (.int .i64 2),14,15,16,31,32,33,.k (.int .i64 0),.k (.int .i64 0),.k (.int .i64 0),35])) 39)] 1),(0,.fb 39 false),(6030,.bin .add 3 13 (kI 1))] (.z (.nx (hZ 13 [40,23,24,25]) [] []))))) (.z (.xt (.x 0) (hZ 13 []) [] [])))
theorem zqA {w0:World} (l:(List Sb)) (tos:(List Vec)) (feeds:(List Int)) (v1:(List Mov)) (v2:Int) (v5:Bool) (v7:Int) (v8:Int) (v9:Bool) (v11:Int) (v12:Int) (v13:Bool) (v15:Int) (s6:v5=false) (s10:v9=false) (s14:v13=false) (hv:(v1.length:Int)=v15) (hl1:tos.length=v1.length) (hl2:feeds.length=v1.length) (hb:v1.length≤1000) (hO:expM ((0:Int),(0:Int),(0:Int)) tos feeds=v1):LpH (KN w0) Tryz.prog 45 ⟨ntOf Tryz.prog 45,[],[]⟩ zl0 0 ⟨13,[sI v15,sB v13,sI v12,sI v11,sB v9,sI v8,sI v7,sB v5,sI v2,.ls 11 cM kM v1,.ls 1 cI kIc feeds,.ls 3 cV kV tos,.ls 3 cSb kSb l],[],[]⟩:=by
 refine zi _ ⟨ze0,zl0,(17,0,0),(13,0,0),6000⟩ (T:=Int×Vec) (fun t=>⟨17,[sI t.2.2.2,sI t.2.2.1,sI t.2.1,sI t.1,sI v15,sB v13,sI v12,sI v11,sB v9,sI v8,sI v7,sB v5,sI v2,.ls 11 cM kM v1,.ls 1 cI kIc feeds,.ls 3 cV kV tos,.ls 3 cSb kSb l],[],[]⟩) (fun (i,at_)=>∃k:Nat,i=(k:Int)∧k≤v1.length∧expM at_ (tos.drop k) (feeds.drop k)=v1.drop k) (fun (i,at_)=>(v15 - i).toNat) ((0:Int),((0:Int),(0:Int),(0:Int))) (hZ 13 [kI 0,kI 0,kI 0,kI 0]) [] [] zsh mixed ⟨0,rfl,Nat.zero_le _,hO⟩ rfl rfl rfl rfl (fun _=>rfl) rfl rfl (by kernel_rfl) ?_
 rintro ⟨i,at_⟩ hJ
 dsimp only at hJ ⊢
 obtain ⟨k,hi,hk,hs⟩:=hJ
 refine ai s6 ?_
 refine ai s10 ?_
 refine ai s14 ?_
 intro v501 e501
 refine ai (fun h502=>?_) fun h502=>?_
 ·
  refine ai (by (have dh502:=LD e501 h502;have hlt:k<v1.length:=(by omega);exact ⟨k,_,hi,List.getElem?_eq_getElem hlt⟩)) fun n503 x504 s505 s506=>?_
  refine ai (by (have dh502:=LD e501 h502;have hlt:k<tos.length:=(by omega);exact ⟨k,_,hi,List.getElem?_eq_getElem hlt⟩)) fun n507 x508 s509 s510=>?_
  refine ai (by (have dh502:=LD e501 h502;have hlt:k<feeds.length:=(by omega);exact ⟨k,_,hi,List.getElem?_eq_getElem hlt⟩)) fun n511 x512 s513 s514=>?_
  refine ai (by (have dh502:=LD e501 h502;have hlt:k<feeds.length:=(by omega);exact ⟨k,_,hi,List.getElem?_eq_getElem hlt⟩)) fun n515 x516 s517 s518=>?_
  intro v519 e519
  refine ai (fun h520=>?_) fun h520=>?_
  ·
   obtain ⟨v521,e521⟩:=LX (!decide (x504=((1:Int),at_,x508,((0:Int),(0:Int),(0:Int)),x512)))
   refine rx [sB v521] [] [] (fun t u w=>⟨e_eqM (x:=x504) (y:=((1:Int),at_,x508,((0:Int),(0:Int),(0:Int)),x512)) (neg:=true) ⟨(za rfl),(za rfl),(za rfl),(za rfl),(za rfl),(za rfl),(za rfl),(za rfl),(za rfl),(za rfl),(za rfl),trivial⟩ ⟨zf,(za rfl),(za rfl),(za rfl),(za rfl),(za rfl),(za rfl),zf,zf,zf,(za rfl),trivial⟩ (za (by rw [e521];rfl)),trivial⟩) ?_
   have s522:v521=false:=by (have dh502:=LD e501 h502;have dh520:=eq_of_beq (e519.trans h520);have qn503:n503=k:=(by omega);have qn507:n507=k:=(by omega);have qn511:n511=k:=(by omega);have qn515:n515=k:=(by omega);rw [qn503] at s506;rw [qn507] at s510;rw [qn511] at s514;rw [qn515] at s518;have hx:=(ziz s510 s514 s506 hs).1;have z0:x516=x512:=Option.some.inj (s518.symm.trans s514);rw [← e521,hx];simp_all)
   refine ai s522 ?_
   intro v523 e523
   refine nxl (v523,x504.2.2.1) ?_ ?_ rfl
   all_goals (have dh502:=LD e501 h502;have dh520:=eq_of_beq (e519.trans h520);have qn503:n503=k:=(by omega);have qn507:n507=k:=(by omega);have qn511:n511=k:=(by omega);have qn515:n515=k:=(by omega);rw [qn503] at s506;rw [qn507] at s510;rw [qn511] at s514;rw [qn515] at s518;have hx:=(ziz s510 s514 s506 hs).2;have hlt:=(List.getElem?_eq_some_iff.1 s506).1;have x3:v523=((k+1:Nat):Int):=(by rw [← e523,hi,wri (by omega)];omega))
   ·show (v15 - v523).toNat<(v15 - i).toNat
    omega
   ·exact ⟨k+1,x3,by omega,hx⟩
  ·
   obtain ⟨v521,e521⟩:=LX (!decide (x504=((2:Int),at_,x508,((0:Int),(0:Int),(0:Int)),x512)))
   refine rx [sB v521] [] [] (fun t u w=>⟨e_eqM (x:=x504) (y:=((2:Int),at_,x508,((0:Int),(0:Int),(0:Int)),x512)) (neg:=true) ⟨(za rfl),(za rfl),(za rfl),(za rfl),(za rfl),(za rfl),(za rfl),(za rfl),(za rfl),(za rfl),(za rfl),trivial⟩ ⟨zf,(za rfl),(za rfl),(za rfl),(za rfl),(za rfl),(za rfl),zf,zf,zf,(za rfl),trivial⟩ (za (by rw [e521];rfl)),trivial⟩) ?_
   have s522:v521=false:=by (have dh502:=LD e501 h502;have dh520:=ne_of_beq_false (e519.trans h520);have qn503:n503=k:=(by omega);have qn507:n507=k:=(by omega);have qn511:n511=k:=(by omega);have qn515:n515=k:=(by omega);rw [qn503] at s506;rw [qn507] at s510;rw [qn511] at s514;rw [qn515] at s518;have hx:=(ziz s510 s514 s506 hs).1;have z0:x516=x512:=Option.some.inj (s518.symm.trans s514);rw [← e521,hx];simp_all)
   refine ai s522 ?_
   intro v523 e523
   refine nxl (v523,x504.2.2.1) ?_ ?_ rfl
   all_goals (have dh502:=LD e501 h502;have dh520:=ne_of_beq_false (e519.trans h520);have qn503:n503=k:=(by omega);have qn507:n507=k:=(by omega);have qn511:n511=k:=(by omega);have qn515:n515=k:=(by omega);rw [qn503] at s506;rw [qn507] at s510;rw [qn511] at s514;rw [qn515] at s518;have hx:=(ziz s510 s514 s506 hs).2;have hlt:=(List.getElem?_eq_some_iff.1 s506).1;have x3:v523=((k+1:Nat):Int):=(by rw [← e523,hi,wri (by omega)];omega))
   ·show (v15 - v523).toNat<(v15 - i).toNat
    omega
   ·exact ⟨k+1,x3,by omega,hx⟩
 ·
  rfl
def zow:Tr:=.s [(3,.call 16 [0,LF (.k (.slice none 0 0)),.o (.g [kI 0,kI 0,kI 0])] (.t [.c,.c])),(10,.bin .neq 37 4 (kI 0)),(0,.fb 5 false),(13,.ln 36 3 3),(15,.ln 35 3 1),(16,.bin .neq 3 6 7),(0,.fb 8 false),(20,.ln 24 3 2),(22,.ln 35 3 1),(23,.bin .neq 3 9 10),(0,.fb 11 false),(29,.ln 36 3 3),(0,.lp zl0 0 0)] (.z (.ret false (LF (kB true)) []))
theorem zmA {w0:World} (hL:LibP w0) (l:List Sb) (tos:List Vec) (feeds:List Int) (h:zD l=0) (hw:SbW l) (hr:runP l [] (0,0,0)=(expM (0,0,0) tos feeds,0)) (hlen:tos.length=feeds.length) (hx:(expM (0,0,0) tos feeds).length=tos.length) (hb:tos.length≤1000):Fun (KN w0) Tryz.prog 45 [.o (.c (pLs cSb l)),.o (.c (pLs cV tos)),.o (.c (pLs cI feeds))] (.o (.c (pB true))):=by
 refine tfn w0 45 ⟨[0,1,2],[],[],0,0⟩ ⟨3,[.ls 1 cI kIc feeds,.ls 3 cV kV tos,.ls 3 cSb kSb l],[],[]⟩ zow (by kernel_rfl) ?_
 obtain ⟨v1,e1⟩:=LX ((runP l ([]:List Int) ((0:Int),(0:Int),(0:Int))).1)
 obtain ⟨v2,e2⟩:=LX ((runP l ([]:List Int) ((0:Int),(0:Int),(0:Int))).2)
 have s3:zD l=0:=by exact h
 have s4:SbW l:=by exact hw
 refine cx (.t [.c (.ls 11 cM kM v1),.c (sI v2)]) (Fun.imp (as2:=[.o (.c (pLs cSb l)),.o (.c (pV (.slice none 0 0))),.o (.g [pV (.int .i64 0),pV (.int .i64 0),pV (.int .i64 0)])]) (zdA hL l ([]:List Int) ((0:Int),(0:Int),(0:Int)) v1 v2 e1 e2 s3 s4) (zaN ⟨fun _ _ _ h=>h,fun _ _ _ h=>nil_I _ _ _ h,fun _ _ _ h=>h,trivial⟩) (fun _ _ _ h=>h)) rfl ?_
 intro v5 e5
 have s6:v5=false:=by (rw [← e5,← e2,hr];simp [hx,hlen])
 refine ai s6 ?_
 intro v7 e7 v8 e8 v9 e9
 have s10:v9=false:=by (rw [← e9,← e7,← e8,← e1,hr];simp [hx,hlen])
 refine ai s10 ?_
 intro v11 e11 v12 e12 v13 e13
 have s14:v13=false:=by (rw [← e13,← e11,← e12];simp [hx,hlen])
 refine ai s14 ?_
 intro v15 e15
 refine rx [] [] [] (zqA l tos feeds v1 v2 v5 v7 v8 v9 v11 v12 v13 v15 s6 s10 s14   e15 (by rw [← e1,hr];exact hx.symm) (by rw [← e1,hr];exact (hx.trans hlen).symm) (by rw [← e1,hr];dsimp only;omega) (by rw [← e1,hr])) ?_
 intro hc
 refine Fun.fin (r:=.o (.c (pV (.bool true)))) (zc (hc)) (fun v W D h=>?_)
 exact h
def zmp:Tr:=.s [(3,.call 26 [0,1] (.t [.c,.c,.c])),(0,.fb 6 true),(15,.bin .eql 3 4 2),(0,.fb 7 true),(20,.bin .eql 3 5 3)] (.z (.ret false (8) []))
theorem ze8 {w0:World} (l:List Mov) (s k0 i0:Int) (hb:l.length<9223372036854775808) (hg:∀x∈l,goodM x) (hs:s<9223372036854775808) (hf:findP l s=(k0,i0,true)):Fun (KN w0) Tryz.prog 47 [.o (.c (pLs cM l)),.o (.c (pI s)),.o (.c (pI k0)),.o (.c (pI i0))] (.o (.c (pB true))):=by
 refine tfn w0 47 ⟨[0,1,2,3],[],[],0,0⟩ ⟨4,[sI i0,sI k0,sI s,.ls 11 cM kM l],[],[]⟩ zmp (by kernel_rfl) ?_
 obtain ⟨v1,e1⟩:=LX ((findP l s).1)
 obtain ⟨v2,e2⟩:=LX ((findP l s).2.1)
 obtain ⟨v3,e3⟩:=LX ((findP l s).2.2)
 have s4:l.length<9223372036854775808:=by omega
 have s5:∀x∈l,goodM x:=by exact hg
 have s6:s<9223372036854775808:=by omega
 refine cx (.t [.c (sI v1),.c (sI v2),.c (sB v3)]) (zmy l s v1 v2 v3 e1 e2 e3 s4 s5 s6) rfl ?_
 have s7:v3=true:=by (rw [← e3,hf])
 refine ai s7 ?_
 intro v8 e8
 have s9:v8=true:=by (rw [← e8,← e1,hf];simp)
 refine ai s9 ?_
 intro v10 e10
 intro hc
 refine Fun.fin (r:=.o (.c (pB v10))) (zc (hc)) (fun v W D h=>?_)
 have q:true=v10:=(by rw [← e10,← e2,hf];simp)
 rw [q];exact h
def zj4:Tr:=.s [(1,.call 21 [LF (kI 0),LF (kI 0),LF (kI 5)] (.o (.g 3))),(2,.call 21 [LF (kI 4),LF (kI 0),LF (kI 5)] (.o (.g 3))),(8,.call 43 [.o (.g [0,1,2])] (.o (.g 4))),(10,.call 29 [.o (.g [3,4,5]),LF (kI 10)] (.o (.g 4))),(12,.call 29 [.o (.g [3,4,5]),LF (kI 20)] (.o (.g 4))),(0,.raw [(1000013,.dat 62 3 [.h 6,.h 7,.h 8,.h 9,.h 10,.h 11,.h 12,.h 13,.h 14,.h 15,.h 16,.h 17] 18)] 1),(14,.call 30 [18] (.o .c)),(16,.call 21 [LF (kI 10),LF (kI 0),LF (kI 0)] (.o (.g 3))),(17,.call 29 [.o (.g [20,21,22]),LF (kI 5)] (.o (.g 4))),(18,.call 21 [LF (kI 10),LF (kI 8),LF (kI 0)] (.o (.g 3))),(19,.call 29 [.o (.g [27,28,29]),LF (kI 6)] (.o (.g 4))),(20,.call 21 [LF (kI 4),LF (kI 0),LF (kI 0)] (.o (.g 3))),(21,.call 29 [.o (.g [34,35,36]),LF (kI 5)] (.o (.g 4))),(28,.call 44 [LF (kI 1),LF (kI 2)] (.o (.g 4))),(29,.call 44 [LF (kI 2),LF (kI 2)] (.o (.g 4))),(30,.call 44 [LF (kI 0),LF (kI 0)] (.o (.g 4))),(0,.raw [(1000040,.dat 26 2 [.h 0,.h 1,.h 2,.h 3,.h 4,.h 5] 53)] 1),(0,.raw [(1000041,.dat 3 2 [.k (.int .i64 0),.k (.int .i64 10)] 54)] 1),(0,.raw [(1000042,.call ⟨45,[19,53,54],[],.o (.c (.k (.bool true))),[]⟩)] 0),(0,.raw [(1000048,.dat 62 4 [.h 41,.h 42,.h 43,.h 44,.h 23,.h 24,.h 25,.h 26,.h 30,.h 31,.h 32,.h 33,.h 49,.h 50,.h 51,.h 52] 55)] 1),(49,.call 30 [55] (.o .c)),(50,.call 21 [LF (kI 0),LF (kI 2),LF (kI 0)] (.o (.g 3))),(51,.call 21 [LF (kI 8),LF (kI 2),LF (kI 0)] (.o (.g 3))),(52,.call 21 [LF (kI 8),LF (kI 8),LF (kI 0)] (.o (.g 3))),(0,.raw [(1000053,.dat 26 3 [.h 57,.h 58,.h 59,.h 60,.h 61,.h 62,.h 63,.h 64,.h 65] 66)] 1),(0,.raw [(1000054,.dat 3 3 [.k (.int .i64 5),.k (.int .i64 5),.k (.int .i64 6)] 67)] 1),(0,.raw [(1000055,.call ⟨45,[56,66,67],[],.o (.c (.k (.bool true))),[]⟩)] 0),(0,.raw [(1000062,.dat 62 4 [.h 45,.h 46,.h 47,.h 48,.h 23,.h 24,.h 25,.h 26,.h 30,.h 31,.h 32,.h 33,.h 49,.h 50,.h 51,.h 52] 68)] 1),(63,.call 30 [68] (.o .c)),(64,.call 21 [LF (kI 0),LF (kI (-2)),LF (kI 0)] (.o (.g 3))),(65,.call 21 [LF (kI 12),LF (kI (-2)),LF (kI 0)] (.o (.g 3))),(66,.call 21 [LF (kI 12),LF (kI 8),LF (kI 0)] (.o (.g 3))),(0,.raw [(1000067,.dat 26 3 [.h 70,.h 71,.h 72,.h 73,.h 74,.h 75,.h 76,.h 77,.h 78] 79)] 1),(0,.raw [(1000068,.dat 3 3 [.k (.int .i64 5),.k (.int .i64 5),.k (.int .i64 6)] 80)] 1),(0,.raw [(1000069,.call ⟨45,[69,79,80],[],.o (.c (.k (.bool true))),[]⟩)] 0),(0,.raw [(1000075,.dat 62 3 [.h 41,.h 42,.h 43,.h 44,.h 23,.h 24,.h 25,.h 26,.h 37,.h 38,.h 39,.h 40] 81)] 1),(0,.raw [(1000076,.call ⟨46,[.o (.c (.k (.int .i64 17))),81],[],.o (.c (.k (.bool true))),[]⟩)] 0),(79,.call 21 [LF (kI 1),LF (kI 0),LF (kI 0)] (.o (.g 3))),(80,.call 29 [.o (.g [82,83,84]),LF (kI 5)] (.o (.g 4))),(81,.call 21 [LF (kI 1),LF (kI 8),LF (kI 0)] (.o (.g 3))),(82,.call 29 [.o (.g [89,90,91]),LF (kI 5)] (.o (.g 4))),(0,.raw [(1000083,.dat 62 3 [.h 41,.h 42,.h 43,.h 44,.h 85,.h 86,.h 87,.h 88,.h 92,.h 93,.h 94,.h 95] 96)] 1),(0,.raw [(1000084,.call ⟨46,[.o (.c (.k (.int .i64 17))),96],[],.o (.c (.k (.bool true))),[]⟩)] 0),(88,.call 21 [LF (kI 3),LF (kI 3),LF (kI 0)] (.o (.g 3))),(89,.call 29 [.o (.g [97,98,99]),LF (kI 5)] (.o (.g 4))),(0,.raw [(1000090,.dat 62 2 [.h 41,.h 42,.h 43,.h 44,.h 100,.h 101,.h 102,.h 103] 104)] 1),(0,.raw [(1000091,.call ⟨46,[.o (.c (.k (.int .i64 17))),104],[],.o (.c (.k (.bool true))),[]⟩)] 0),(0,.raw [(1000096,.dat 62 2 [.h 41,.h 42,.h 43,.h 44,.h 41,.h 42,.h 43,.h 44] 105)] 1),(0,.raw [(1000097,.call ⟨46,[.o (.c (.k (.int .i64 17))),105],[],.o (.c (.k (.bool true))),[]⟩)] 0),(100,.call 21 [LF (kI 0),LF (kI 0),LF (kI 25)] (.o (.g 3))),(101,.call 43 [.o (.g [106,107,108])] (.o (.g 4))),(0,.raw [(1000102,.dat 62 1 [.h 109,.h 110,.h 111,.h 112] 113)] 1),(0,.raw [(1000103,.call ⟨46,[.o (.c (.k (.int .i64 3))),113],[],.o (.c (.k (.bool true))),[]⟩)] 0),(105,.call 21 [LF (kI 1),LF (kI 0),LF (kI 0)] (.o (.g 3))),(106,.call 29 [.o (.g [114,115,116]),LF (kI 0)] (.o (.g 4))),(0,.raw [(1000107,.dat 62 1 [.h 117,.h 118,.h 119,.h 120] 121)] 1),(0,.raw [(1000108,.call ⟨46,[.o (.c (.k (.int .i64 3))),121],[],.o (.c (.k (.bool true))),[]⟩)] 0),(111,.call 44 [LF (kI 1),LF (kI 0)] (.o (.g 4))),(0,.raw [(1000112,.dat 62 1 [.h 122,.h 123,.h 124,.h 125] 126)] 1),(0,.raw [(1000113,.call ⟨46,[.o (.c (.k (.int .i64 3))),126],[],.o (.c (.k (.bool true))),[]⟩)] 0),(0,.raw [(1000117,.dat 62 1 [.k (.int .i64 5),.k (.int .i64 0),.k (.string ⟨#[115,105,100,101]⟩),.k (.slice none 0 0)] 127)] 1),(0,.raw [(1000118,.call ⟨46,[.o (.c (.k (.int .i64 18))),127],[],.o (.c (.k (.bool true))),[]⟩)] 0),(0,.raw [(1000126,.dat 45 2 [.k (.int .i64 1),.k (.int .i64 0),.k (.int .i64 0),.k (.int .i64 0),.h 0,.h 1,.h 2,.k (.int .i64 0),.k (.int .i64 0),.k (.int .i64 0),.k (.int .i64 0),.k (.int .i64 2),.h 0,.h 1,.h 2,.h 3,.h 4,.h 5,.k (.int .i64 0),.k (.int .i64 0),.k (.int .i64 0),.k (.int .i64 10)] 128)] 1),(129,.call 26 [128,LF (kI 10)] (.t [.c,.c,.c])),(146,.call 24 [128] (.o .c)),(147,.bin .eql 3 132 (kI 9)),(0,.fb 133 true),(0,.raw [(1000151,.call ⟨47,[128,.o (.c (.k (.int .i64 0))),.o (.c (.k (.int .i64 0))),.o (.c (.k (.int .i64 0)))],[],.o (.c (.k (.bool true))),[]⟩)] 0),(0,.raw [(1000155,.call ⟨47,[128,.o (.c (.k (.int .i64 5))),.o (.c (.k (.int .i64 0))),.o (.c (.k (.int .i64 5)))],[],.o (.c (.k (.bool true))),[]⟩)] 0),(0,.raw [(1000159,.call ⟨47,[128,.o (.c (.k (.int .i64 6))),.o (.c (.k (.int .i64 1))),.o (.c (.k (.int .i64 1)))],[],.o (.c (.k (.bool true))),[]⟩)] 0),(0,.raw [(1000163,.call ⟨47,[128,.o (.c (.k (.int .i64 9))),.o (.c (.k (.int .i64 1))),.o (.c (.k (.int .i64 4)))],[],.o (.c (.k (.bool true))),[]⟩)] 0),(167,.un .not 131)] (.z (.ret false (134) []))
theorem zoy {w0:World} (hL:LibP w0):Fun (KN w0) Tryz.prog 9 [] (.o (.c (pB true))):=by
 refine tfn w0 9 ⟨[],[],[],0,0⟩ ⟨0,[],[],[]⟩ zj4 (by kernel_rfl) ?_
 obtain ⟨v1,e1⟩:=LX (((0:Int),(0:Int),(5:Int)))
 refine cx (.o (.g [sI v1.1,sI v1.2.1,sI v1.2.2])) (qI (0:Int) (0:Int) (5:Int) v1 e1) rfl ?_
 obtain ⟨v2,e2⟩:=LX (((4:Int),(0:Int),(5:Int)))
 refine cx (.o (.g [sI v2.1,sI v2.2.1,sI v2.2.2])) (qI (4:Int) (0:Int) (5:Int) v2 e2) rfl ?_
 obtain ⟨v3,e3⟩:=LX (zd9 v1)
 refine cx (.o (.g [sI v3.1,sI v3.2.1,sS v3.2.2.1,.ls 3 cE kE v3.2.2.2])) (zjs v1 v3 e3) rfl ?_
 obtain ⟨v4,e4⟩:=LX (lineX v2 (10:Int))
 refine cx (.o (.g [sI v4.1,sI v4.2.1,sS v4.2.2.1,.ls 3 cE kE v4.2.2.2])) (zT v2 (10:Int) v4 e4) rfl ?_
 obtain ⟨v5,e5⟩:=LX (lineX v2 (20:Int))
 refine cx (.o (.g [sI v5.1,sI v5.2.1,sS v5.2.2.1,.ls 3 cE kE v5.2.2.2])) (zT v2 (20:Int) v5 e5) rfl ?_
 obtain ⟨v6,e6⟩:=LX (([v3,v4,v5]:List Stm))
 refine rx [.ls 4 cSt kSt v6] [] [] (fun t u w=>⟨e_dat (c:=cSt) (l:=([v3,v4,v5]:List Stm)) (ps:=(pI v3.1::pI v3.2.1::pS v3.2.2.1::pLs cE v3.2.2.2::pI v4.1::pI v4.2.1::pS v4.2.2.1::pLs cE v4.2.2.2::pI v5.1::pI v5.2.1::pS v5.2.2.1::pLs cE v5.2.2.2::[])) (qs:=(pI v3.1::pI v3.2.1::pS v3.2.2.1::pLs cE v3.2.2.2::pI v4.1::pI v4.2.1::pS v4.2.2.1::pLs cE v4.2.2.2::pI v5.1::pI v5.2.1::pS v5.2.2.1::pLs cE v5.2.2.2::[])) (by rw [e6];rfl) rfl rfl rfl (pimps (fun _ _ _ h=>h) <| pimps (fun _ _ _ h=>h) <| pimps (fun _ _ _ h=>h) <| pimps (fun _ _ _ h=>h) <| pimps (fun _ _ _ h=>h) <| pimps (fun _ _ _ h=>h) <| pimps (fun _ _ _ h=>h) <| pimps (fun _ _ _ h=>h) <| pimps (fun _ _ _ h=>h) <| pimps (fun _ _ _ h=>h) <| pimps (fun _ _ _ h=>h) <| pimps (fun _ _ _ h=>h) <| ze) rfl,trivial⟩) ?_
 obtain ⟨v7,e7⟩:=LX (mainX v6)
 refine cx (.o (.c (.ls 3 cSb kSb v7))) (zca v6 v7 e7) rfl ?_
 obtain ⟨v8,e8⟩:=LX (((10:Int),(0:Int),(0:Int)))
 refine cx (.o (.g [sI v8.1,sI v8.2.1,sI v8.2.2])) (qI (10:Int) (0:Int) (0:Int) v8 e8) rfl ?_
 obtain ⟨v9,e9⟩:=LX (lineX v8 (5:Int))
 refine cx (.o (.g [sI v9.1,sI v9.2.1,sS v9.2.2.1,.ls 3 cE kE v9.2.2.2])) (zT v8 (5:Int) v9 e9) rfl ?_
 obtain ⟨v10,e10⟩:=LX (((10:Int),(8:Int),(0:Int)))
 refine cx (.o (.g [sI v10.1,sI v10.2.1,sI v10.2.2])) (qI (10:Int) (8:Int) (0:Int) v10 e10) rfl ?_
 obtain ⟨v11,e11⟩:=LX (lineX v10 (6:Int))
 refine cx (.o (.g [sI v11.1,sI v11.2.1,sS v11.2.2.1,.ls 3 cE kE v11.2.2.2])) (zT v10 (6:Int) v11 e11) rfl ?_
 obtain ⟨v12,e12⟩:=LX (((4:Int),(0:Int),(0:Int)))
 refine cx (.o (.g [sI v12.1,sI v12.2.1,sI v12.2.2])) (qI (4:Int) (0:Int) (0:Int) v12 e12) rfl ?_
 obtain ⟨v13,e13⟩:=LX (lineX v12 (5:Int))
 refine cx (.o (.g [sI v13.1,sI v13.2.1,sS v13.2.2.1,.ls 3 cE kE v13.2.2.2])) (zT v12 (5:Int) v13 e13) rfl ?_
 obtain ⟨v14,e14⟩:=LX (sideX (1:Int) (2:Int))
 refine cx (.o (.g [sI v14.1,sI v14.2.1,sS v14.2.2.1,.ls 3 cE kE v14.2.2.2])) (zdB (1:Int) (2:Int) v14 e14) rfl ?_
 obtain ⟨v15,e15⟩:=LX (sideX (2:Int) (2:Int))
 refine cx (.o (.g [sI v15.1,sI v15.2.1,sS v15.2.2.1,.ls 3 cE kE v15.2.2.2])) (zdB (2:Int) (2:Int) v15 e15) rfl ?_
 obtain ⟨v16,e16⟩:=LX (sideX (0:Int) (0:Int))
 refine cx (.o (.g [sI v16.1,sI v16.2.1,sS v16.2.2.1,.ls 3 cE kE v16.2.2.2])) (zdB (0:Int) (0:Int) v16 e16) rfl ?_
 obtain ⟨v17,e17⟩:=LX (([v1,v2]:List Vec))
 refine rx [.ls 3 cV kV v17] [] [] (fun t u w=>⟨e_dat (c:=cV) (l:=([v1,v2]:List Vec)) (ps:=(pI v1.1::pI v1.2.1::pI v1.2.2::pI v2.1::pI v2.2.1::pI v2.2.2::[])) (qs:=(pI v1.1::pI v1.2.1::pI v1.2.2::pI v2.1::pI v2.2.1::pI v2.2.2::[])) (by rw [e17];rfl) rfl rfl rfl (pimps (fun _ _ _ h=>h) <| pimps (fun _ _ _ h=>h) <| pimps (fun _ _ _ h=>h) <| pimps (fun _ _ _ h=>h) <| pimps (fun _ _ _ h=>h) <| pimps (fun _ _ _ h=>h) <| ze) rfl,trivial⟩) ?_
 obtain ⟨v18,e18⟩:=LX (([(0:Int),(10:Int)]:List Int))
 refine rx [.ls 1 cI kIc v18] [] [] (fun t u w=>⟨e_dat (c:=cI) (l:=([(0:Int),(10:Int)]:List Int)) (ps:=(pV (.int .i64 0)::pV (.int .i64 10)::[])) (qs:=(pI (0:Int)::pI (10:Int)::[])) (by rw [e18];rfl) rfl rfl rfl (pimps (fun _ _ _ h=>h) <| pimps (fun _ _ _ h=>h) <| ze) rfl,trivial⟩) ?_
 have s19:zD v7=0:=by (subst e7;subst e6;subst e5;subst e4;subst e3;subst e2;subst e1;decide +kernel)
 have s20:SbW v7:=by (subst e7;subst e6;subst e5;subst e4;subst e3;subst e2;subst e1;unfold SbW;decide +kernel)
 have s21:runP v7 [] (0,0,0)=(expM (0,0,0) v17 v18,0):=by (subst e18;subst e17;subst e7;subst e6;subst e5;subst e4;subst e3;subst e2;subst e1;kernel_rfl)
 have s22:v17.length=v18.length:=by (subst e18;subst e17;subst e2;subst e1;decide +kernel)
 have s23:(expM (0,0,0) v17 v18).length=v17.length:=by (subst e18;subst e17;subst e2;subst e1;decide +kernel)
 have s24:v17.length≤1000:=by (subst e17;subst e2;subst e1;decide +kernel)
 refine rx [] [] [] (fun t u w=>⟨zE (zmA hL v7 v17 v18   s19 s20 s21 s22 s23 s24),trivial⟩) ?_
 obtain ⟨v25,e25⟩:=LX (([v14,v9,v11,v16]:List Stm))
 refine rx [.ls 4 cSt kSt v25] [] [] (fun t u w=>⟨e_dat (c:=cSt) (l:=([v14,v9,v11,v16]:List Stm)) (ps:=(pI v14.1::pI v14.2.1::pS v14.2.2.1::pLs cE v14.2.2.2::pI v9.1::pI v9.2.1::pS v9.2.2.1::pLs cE v9.2.2.2::pI v11.1::pI v11.2.1::pS v11.2.2.1::pLs cE v11.2.2.2::pI v16.1::pI v16.2.1::pS v16.2.2.1::pLs cE v16.2.2.2::[])) (qs:=(pI v14.1::pI v14.2.1::pS v14.2.2.1::pLs cE v14.2.2.2::pI v9.1::pI v9.2.1::pS v9.2.2.1::pLs cE v9.2.2.2::pI v11.1::pI v11.2.1::pS v11.2.2.1::pLs cE v11.2.2.2::pI v16.1::pI v16.2.1::pS v16.2.2.1::pLs cE v16.2.2.2::[])) (by rw [e25];rfl) rfl rfl rfl (pimps (fun _ _ _ h=>h) <| pimps (fun _ _ _ h=>h) <| pimps (fun _ _ _ h=>h) <| pimps (fun _ _ _ h=>h) <| pimps (fun _ _ _ h=>h) <| pimps (fun _ _ _ h=>h) <| pimps (fun _ _ _ h=>h) <| pimps (fun _ _ _ h=>h) <| pimps (fun _ _ _ h=>h) <| pimps (fun _ _ _ h=>h) <| pimps (fun _ _ _ h=>h) <| pimps (fun _ _ _ h=>h) <| pimps (fun _ _ _ h=>h) <| pimps (fun _ _ _ h=>h) <| pimps (fun _ _ _ h=>h) <| pimps (fun _ _ _ h=>h) <| ze) rfl,trivial⟩) ?_
 obtain ⟨v26,e26⟩:=LX (mainX v25)
 refine cx (.o (.c (.ls 3 cSb kSb v26))) (zca v25 v26 e26) rfl ?_
 obtain ⟨v27,e27⟩:=LX (((0:Int),(2:Int),(0:Int)))
 refine cx (.o (.g [sI v27.1,sI v27.2.1,sI v27.2.2])) (qI (0:Int) (2:Int) (0:Int) v27 e27) rfl ?_
 obtain ⟨v28,e28⟩:=LX (((8:Int),(2:Int),(0:Int)))
 refine cx (.o (.g [sI v28.1,sI v28.2.1,sI v28.2.2])) (qI (8:Int) (2:Int) (0:Int) v28 e28) rfl ?_
 obtain ⟨v29,e29⟩:=LX (((8:Int),(8:Int),(0:Int)))
 refine cx (.o (.g [sI v29.1,sI v29.2.1,sI v29.2.2])) (qI (8:Int) (8:Int) (0:Int) v29 e29) rfl ?_
 obtain ⟨v30,e30⟩:=LX (([v27,v28,v29]:List Vec))
 refine rx [.ls 3 cV kV v30] [] [] (fun t u w=>⟨e_dat (c:=cV) (l:=([v27,v28,v29]:List Vec)) (ps:=(pI v27.1::pI v27.2.1::pI v27.2.2::pI v28.1::pI v28.2.1::pI v28.2.2::pI v29.1::pI v29.2.1::pI v29.2.2::[])) (qs:=(pI v27.1::pI v27.2.1::pI v27.2.2::pI v28.1::pI v28.2.1::pI v28.2.2::pI v29.1::pI v29.2.1::pI v29.2.2::[])) (by rw [e30];rfl) rfl rfl rfl (pimps (fun _ _ _ h=>h) <| pimps (fun _ _ _ h=>h) <| pimps (fun _ _ _ h=>h) <| pimps (fun _ _ _ h=>h) <| pimps (fun _ _ _ h=>h) <| pimps (fun _ _ _ h=>h) <| pimps (fun _ _ _ h=>h) <| pimps (fun _ _ _ h=>h) <| pimps (fun _ _ _ h=>h) <| ze) rfl,trivial⟩) ?_
 obtain ⟨v31,e31⟩:=LX (([(5:Int),(5:Int),(6:Int)]:List Int))
 refine rx [.ls 1 cI kIc v31] [] [] (fun t u w=>⟨e_dat (c:=cI) (l:=([(5:Int),(5:Int),(6:Int)]:List Int)) (ps:=(pV (.int .i64 5)::pV (.int .i64 5)::pV (.int .i64 6)::[])) (qs:=(pI (5:Int)::pI (5:Int)::pI (6:Int)::[])) (by rw [e31];rfl) rfl rfl rfl (pimps (fun _ _ _ h=>h) <| pimps (fun _ _ _ h=>h) <| pimps (fun _ _ _ h=>h) <| ze) rfl,trivial⟩) ?_
 have s32:zD v26=0:=by (subst e26;subst e25;subst e16;subst e14;subst e11;subst e10;subst e9;subst e8;decide +kernel)
 have s33:SbW v26:=by (subst e26;subst e25;subst e16;subst e14;subst e11;subst e10;subst e9;subst e8;unfold SbW;decide +kernel)
 have s34:runP v26 [] (0,0,0)=(expM (0,0,0) v30 v31,0):=by (subst e31;subst e30;subst e29;subst e28;subst e27;subst e26;subst e25;subst e16;subst e14;subst e11;subst e10;subst e9;subst e8;kernel_rfl)
 have s35:v30.length=v31.length:=by (subst e31;subst e30;subst e29;subst e28;subst e27;decide +kernel)
 have s36:(expM (0,0,0) v30 v31).length=v30.length:=by (subst e31;subst e30;subst e29;subst e28;subst e27;decide +kernel)
 have s37:v30.length≤1000:=by (subst e30;subst e29;subst e28;subst e27;decide +kernel)
 refine rx [] [] [] (fun t u w=>⟨zE (zmA hL v26 v30 v31   s32 s33 s34 s35 s36 s37),trivial⟩) ?_
 obtain ⟨v38,e38⟩:=LX (([v15,v9,v11,v16]:List Stm))
 refine rx [.ls 4 cSt kSt v38] [] [] (fun t u w=>⟨e_dat (c:=cSt) (l:=([v15,v9,v11,v16]:List Stm)) (ps:=(pI v15.1::pI v15.2.1::pS v15.2.2.1::pLs cE v15.2.2.2::pI v9.1::pI v9.2.1::pS v9.2.2.1::pLs cE v9.2.2.2::pI v11.1::pI v11.2.1::pS v11.2.2.1::pLs cE v11.2.2.2::pI v16.1::pI v16.2.1::pS v16.2.2.1::pLs cE v16.2.2.2::[])) (qs:=(pI v15.1::pI v15.2.1::pS v15.2.2.1::pLs cE v15.2.2.2::pI v9.1::pI v9.2.1::pS v9.2.2.1::pLs cE v9.2.2.2::pI v11.1::pI v11.2.1::pS v11.2.2.1::pLs cE v11.2.2.2::pI v16.1::pI v16.2.1::pS v16.2.2.1::pLs cE v16.2.2.2::[])) (by rw [e38];rfl) rfl rfl rfl (pimps (fun _ _ _ h=>h) <| pimps (fun _ _ _ h=>h) <| pimps (fun _ _ _ h=>h) <| pimps (fun _ _ _ h=>h) <| pimps (fun _ _ _ h=>h) <| pimps (fun _ _ _ h=>h) <| pimps (fun _ _ _ h=>h) <| pimps (fun _ _ _ h=>h) <| pimps (fun _ _ _ h=>h) <| pimps (fun _ _ _ h=>h) <| pimps (fun _ _ _ h=>h) <| pimps (fun _ _ _ h=>h) <| pimps (fun _ _ _ h=>h) <| pimps (fun _ _ _ h=>h) <| pimps (fun _ _ _ h=>h) <| pimps (fun _ _ _ h=>h) <| ze) rfl,trivial⟩) ?_
 obtain ⟨v39,e39⟩:=LX (mainX v38)
 refine cx (.o (.c (.ls 3 cSb kSb v39))) (zca v38 v39 e39) rfl ?_
 obtain ⟨v40,e40⟩:=LX (((0:Int),(-2:Int),(0:Int)))
 refine cx (.o (.g [sI v40.1,sI v40.2.1,sI v40.2.2])) (qI (0:Int) (-2:Int) (0:Int) v40 e40) rfl ?_
 obtain ⟨v41,e41⟩:=LX (((12:Int),(-2:Int),(0:Int)))
 refine cx (.o (.g [sI v41.1,sI v41.2.1,sI v41.2.2])) (qI (12:Int) (-2:Int) (0:Int) v41 e41) rfl ?_
 obtain ⟨v42,e42⟩:=LX (((12:Int),(8:Int),(0:Int)))
 refine cx (.o (.g [sI v42.1,sI v42.2.1,sI v42.2.2])) (qI (12:Int) (8:Int) (0:Int) v42 e42) rfl ?_
 obtain ⟨v43,e43⟩:=LX (([v40,v41,v42]:List Vec))
 refine rx [.ls 3 cV kV v43] [] [] (fun t u w=>⟨e_dat (c:=cV) (l:=([v40,v41,v42]:List Vec)) (ps:=(pI v40.1::pI v40.2.1::pI v40.2.2::pI v41.1::pI v41.2.1::pI v41.2.2::pI v42.1::pI v42.2.1::pI v42.2.2::[])) (qs:=(pI v40.1::pI v40.2.1::pI v40.2.2::pI v41.1::pI v41.2.1::pI v41.2.2::pI v42.1::pI v42.2.1::pI v42.2.2::[])) (by rw [e43];rfl) rfl rfl rfl (pimps (fun _ _ _ h=>h) <| pimps (fun _ _ _ h=>h) <| pimps (fun _ _ _ h=>h) <| pimps (fun _ _ _ h=>h) <| pimps (fun _ _ _ h=>h) <| pimps (fun _ _ _ h=>h) <| pimps (fun _ _ _ h=>h) <| pimps (fun _ _ _ h=>h) <| pimps (fun _ _ _ h=>h) <| ze) rfl,trivial⟩) ?_
 obtain ⟨v44,e44⟩:=LX (([(5:Int),(5:Int),(6:Int)]:List Int))
 refine rx [.ls 1 cI kIc v44] [] [] (fun t u w=>⟨e_dat (c:=cI) (l:=([(5:Int),(5:Int),(6:Int)]:List Int)) (ps:=(pV (.int .i64 5)::pV (.int .i64 5)::pV (.int .i64 6)::[])) (qs:=(pI (5:Int)::pI (5:Int)::pI (6:Int)::[])) (by rw [e44];rfl) rfl rfl rfl (pimps (fun _ _ _ h=>h) <| pimps (fun _ _ _ h=>h) <| pimps (fun _ _ _ h=>h) <| ze) rfl,trivial⟩) ?_
 have s45:zD v39=0:=by (subst e39;subst e38;subst e16;subst e15;subst e11;subst e10;subst e9;subst e8;decide +kernel)
 have s46:SbW v39:=by (subst e39;subst e38;subst e16;subst e15;subst e11;subst e10;subst e9;subst e8;unfold SbW;decide +kernel)
 have s47:runP v39 [] (0,0,0)=(expM (0,0,0) v43 v44,0):=by (subst e44;subst e43;subst e42;subst e41;subst e40;subst e39;subst e38;subst e16;subst e15;subst e11;subst e10;subst e9;subst e8;kernel_rfl)
 have s48:v43.length=v44.length:=by (subst e44;subst e43;subst e42;subst e41;subst e40;decide +kernel)
 have s49:(expM (0,0,0) v43 v44).length=v43.length:=by (subst e44;subst e43;subst e42;subst e41;subst e40;decide +kernel)
 have s50:v43.length≤1000:=by (subst e43;subst e42;subst e41;subst e40;decide +kernel)
 refine rx [] [] [] (fun t u w=>⟨zE (zmA hL v39 v43 v44   s45 s46 s47 s48 s49 s50),trivial⟩) ?_
 obtain ⟨v51,e51⟩:=LX (([v14,v9,v13]:List Stm))
 refine rx [.ls 4 cSt kSt v51] [] [] (fun t u w=>⟨e_dat (c:=cSt) (l:=([v14,v9,v13]:List Stm)) (ps:=(pI v14.1::pI v14.2.1::pS v14.2.2.1::pLs cE v14.2.2.2::pI v9.1::pI v9.2.1::pS v9.2.2.1::pLs cE v9.2.2.2::pI v13.1::pI v13.2.1::pS v13.2.2.1::pLs cE v13.2.2.2::[])) (qs:=(pI v14.1::pI v14.2.1::pS v14.2.2.1::pLs cE v14.2.2.2::pI v9.1::pI v9.2.1::pS v9.2.2.1::pLs cE v9.2.2.2::pI v13.1::pI v13.2.1::pS v13.2.2.1::pLs cE v13.2.2.2::[])) (by rw [e51];rfl) rfl rfl rfl (pimps (fun _ _ _ h=>h) <| pimps (fun _ _ _ h=>h) <| pimps (fun _ _ _ h=>h) <| pimps (fun _ _ _ h=>h) <| pimps (fun _ _ _ h=>h) <| pimps (fun _ _ _ h=>h) <| pimps (fun _ _ _ h=>h) <| pimps (fun _ _ _ h=>h) <| pimps (fun _ _ _ h=>h) <| pimps (fun _ _ _ h=>h) <| pimps (fun _ _ _ h=>h) <| pimps (fun _ _ _ h=>h) <| ze) rfl,trivial⟩) ?_
 have s52:zD (mainX v51)=0:=by (subst e51;subst e14;subst e13;subst e12;subst e9;subst e8;decide +kernel)
 have s53:SbW (mainX v51):=by (subst e51;subst e14;subst e13;subst e12;subst e9;subst e8;unfold SbW;decide +kernel)
 have s54:runP (mainX v51) [] (0,0,0)=([],(17:Int)):=by (subst e51;subst e14;subst e13;subst e12;subst e9;subst e8;kernel_rfl)
 refine rx [] [] [] (fun t u w=>⟨zE (zaQ hL (17:Int) v51   s52 s53 s54),trivial⟩) ?_
 obtain ⟨v55,e55⟩:=LX (((1:Int),(0:Int),(0:Int)))
 refine cx (.o (.g [sI v55.1,sI v55.2.1,sI v55.2.2])) (qI (1:Int) (0:Int) (0:Int) v55 e55) rfl ?_
 obtain ⟨v56,e56⟩:=LX (lineX v55 (5:Int))
 refine cx (.o (.g [sI v56.1,sI v56.2.1,sS v56.2.2.1,.ls 3 cE kE v56.2.2.2])) (zT v55 (5:Int) v56 e56) rfl ?_
 obtain ⟨v57,e57⟩:=LX (((1:Int),(8:Int),(0:Int)))
 refine cx (.o (.g [sI v57.1,sI v57.2.1,sI v57.2.2])) (qI (1:Int) (8:Int) (0:Int) v57 e57) rfl ?_
 obtain ⟨v58,e58⟩:=LX (lineX v57 (5:Int))
 refine cx (.o (.g [sI v58.1,sI v58.2.1,sS v58.2.2.1,.ls 3 cE kE v58.2.2.2])) (zT v57 (5:Int) v58 e58) rfl ?_
 obtain ⟨v59,e59⟩:=LX (([v14,v56,v58]:List Stm))
 refine rx [.ls 4 cSt kSt v59] [] [] (fun t u w=>⟨e_dat (c:=cSt) (l:=([v14,v56,v58]:List Stm)) (ps:=(pI v14.1::pI v14.2.1::pS v14.2.2.1::pLs cE v14.2.2.2::pI v56.1::pI v56.2.1::pS v56.2.2.1::pLs cE v56.2.2.2::pI v58.1::pI v58.2.1::pS v58.2.2.1::pLs cE v58.2.2.2::[])) (qs:=(pI v14.1::pI v14.2.1::pS v14.2.2.1::pLs cE v14.2.2.2::pI v56.1::pI v56.2.1::pS v56.2.2.1::pLs cE v56.2.2.2::pI v58.1::pI v58.2.1::pS v58.2.2.1::pLs cE v58.2.2.2::[])) (by rw [e59];rfl) rfl rfl rfl (pimps (fun _ _ _ h=>h) <| pimps (fun _ _ _ h=>h) <| pimps (fun _ _ _ h=>h) <| pimps (fun _ _ _ h=>h) <| pimps (fun _ _ _ h=>h) <| pimps (fun _ _ _ h=>h) <| pimps (fun _ _ _ h=>h) <| pimps (fun _ _ _ h=>h) <| pimps (fun _ _ _ h=>h) <| pimps (fun _ _ _ h=>h) <| pimps (fun _ _ _ h=>h) <| pimps (fun _ _ _ h=>h) <| ze) rfl,trivial⟩) ?_
 have s60:zD (mainX v59)=0:=by (subst e59;subst e58;subst e57;subst e56;subst e55;subst e14;decide +kernel)
 have s61:SbW (mainX v59):=by (subst e59;subst e58;subst e57;subst e56;subst e55;subst e14;unfold SbW;decide +kernel)
 have s62:runP (mainX v59) [] (0,0,0)=([],(17:Int)):=by (subst e59;subst e58;subst e57;subst e56;subst e55;subst e14;kernel_rfl)
 refine rx [] [] [] (fun t u w=>⟨zE (zaQ hL (17:Int) v59   s60 s61 s62),trivial⟩) ?_
 obtain ⟨v63,e63⟩:=LX (((3:Int),(3:Int),(0:Int)))
 refine cx (.o (.g [sI v63.1,sI v63.2.1,sI v63.2.2])) (qI (3:Int) (3:Int) (0:Int) v63 e63) rfl ?_
 obtain ⟨v64,e64⟩:=LX (lineX v63 (5:Int))
 refine cx (.o (.g [sI v64.1,sI v64.2.1,sS v64.2.2.1,.ls 3 cE kE v64.2.2.2])) (zT v63 (5:Int) v64 e64) rfl ?_
 obtain ⟨v65,e65⟩:=LX (([v14,v64]:List Stm))
 refine rx [.ls 4 cSt kSt v65] [] [] (fun t u w=>⟨e_dat (c:=cSt) (l:=([v14,v64]:List Stm)) (ps:=(pI v14.1::pI v14.2.1::pS v14.2.2.1::pLs cE v14.2.2.2::pI v64.1::pI v64.2.1::pS v64.2.2.1::pLs cE v64.2.2.2::[])) (qs:=(pI v14.1::pI v14.2.1::pS v14.2.2.1::pLs cE v14.2.2.2::pI v64.1::pI v64.2.1::pS v64.2.2.1::pLs cE v64.2.2.2::[])) (by rw [e65];rfl) rfl rfl rfl (pimps (fun _ _ _ h=>h) <| pimps (fun _ _ _ h=>h) <| pimps (fun _ _ _ h=>h) <| pimps (fun _ _ _ h=>h) <| pimps (fun _ _ _ h=>h) <| pimps (fun _ _ _ h=>h) <| pimps (fun _ _ _ h=>h) <| pimps (fun _ _ _ h=>h) <| ze) rfl,trivial⟩) ?_
 have s66:zD (mainX v65)=0:=by (subst e65;subst e64;subst e63;subst e14;decide +kernel)
 have s67:SbW (mainX v65):=by (subst e65;subst e64;subst e63;subst e14;unfold SbW;decide +kernel)
 have s68:runP (mainX v65) [] (0,0,0)=([],(17:Int)):=by (subst e65;subst e64;subst e63;subst e14;kernel_rfl)
 refine rx [] [] [] (fun t u w=>⟨zE (zaQ hL (17:Int) v65   s66 s67 s68),trivial⟩) ?_
 obtain ⟨v69,e69⟩:=LX (([v14,v14]:List Stm))
 refine rx [.ls 4 cSt kSt v69] [] [] (fun t u w=>⟨e_dat (c:=cSt) (l:=([v14,v14]:List Stm)) (ps:=(pI v14.1::pI v14.2.1::pS v14.2.2.1::pLs cE v14.2.2.2::pI v14.1::pI v14.2.1::pS v14.2.2.1::pLs cE v14.2.2.2::[])) (qs:=(pI v14.1::pI v14.2.1::pS v14.2.2.1::pLs cE v14.2.2.2::pI v14.1::pI v14.2.1::pS v14.2.2.1::pLs cE v14.2.2.2::[])) (by rw [e69];rfl) rfl rfl rfl (pimps (fun _ _ _ h=>h) <| pimps (fun _ _ _ h=>h) <| pimps (fun _ _ _ h=>h) <| pimps (fun _ _ _ h=>h) <| pimps (fun _ _ _ h=>h) <| pimps (fun _ _ _ h=>h) <| pimps (fun _ _ _ h=>h) <| pimps (fun _ _ _ h=>h) <| ze) rfl,trivial⟩) ?_
 have s70:zD (mainX v69)=0:=by (subst e69;subst e14;decide +kernel)
 have s71:SbW (mainX v69):=by (subst e69;subst e14;unfold SbW;decide +kernel)
 have s72:runP (mainX v69) [] (0,0,0)=([],(17:Int)):=by (subst e69;subst e14;kernel_rfl)
 refine rx [] [] [] (fun t u w=>⟨zE (zaQ hL (17:Int) v69   s70 s71 s72),trivial⟩) ?_
 obtain ⟨v73,e73⟩:=LX (((0:Int),(0:Int),(25:Int)))
 refine cx (.o (.g [sI v73.1,sI v73.2.1,sI v73.2.2])) (qI (0:Int) (0:Int) (25:Int) v73 e73) rfl ?_
 obtain ⟨v74,e74⟩:=LX (zd9 v73)
 refine cx (.o (.g [sI v74.1,sI v74.2.1,sS v74.2.2.1,.ls 3 cE kE v74.2.2.2])) (zjs v73 v74 e74) rfl ?_
 obtain ⟨v75,e75⟩:=LX (([v74]:List Stm))
 refine rx [.ls 4 cSt kSt v75] [] [] (fun t u w=>⟨e_dat (c:=cSt) (l:=([v74]:List Stm)) (ps:=(pI v74.1::pI v74.2.1::pS v74.2.2.1::pLs cE v74.2.2.2::[])) (qs:=(pI v74.1::pI v74.2.1::pS v74.2.2.1::pLs cE v74.2.2.2::[])) (by rw [e75];rfl) rfl rfl rfl (pimps (fun _ _ _ h=>h) <| pimps (fun _ _ _ h=>h) <| pimps (fun _ _ _ h=>h) <| pimps (fun _ _ _ h=>h) <| ze) rfl,trivial⟩) ?_
 have s76:zD (mainX v75)=0:=by (subst e75;subst e74;subst e73;decide +kernel)
 have s77:SbW (mainX v75):=by (subst e75;subst e74;subst e73;unfold SbW;decide +kernel)
 have s78:runP (mainX v75) [] (0,0,0)=([],(3:Int)):=by (subst e75;subst e74;subst e73;kernel_rfl)
 refine rx [] [] [] (fun t u w=>⟨zE (zaQ hL (3:Int) v75   s76 s77 s78),trivial⟩) ?_
 obtain ⟨v79,e79⟩:=LX (((1:Int),(0:Int),(0:Int)))
 refine cx (.o (.g [sI v79.1,sI v79.2.1,sI v79.2.2])) (qI (1:Int) (0:Int) (0:Int) v79 e79) rfl ?_
 obtain ⟨v80,e80⟩:=LX (lineX v79 (0:Int))
 refine cx (.o (.g [sI v80.1,sI v80.2.1,sS v80.2.2.1,.ls 3 cE kE v80.2.2.2])) (zT v79 (0:Int) v80 e80) rfl ?_
 obtain ⟨v81,e81⟩:=LX (([v80]:List Stm))
 refine rx [.ls 4 cSt kSt v81] [] [] (fun t u w=>⟨e_dat (c:=cSt) (l:=([v80]:List Stm)) (ps:=(pI v80.1::pI v80.2.1::pS v80.2.2.1::pLs cE v80.2.2.2::[])) (qs:=(pI v80.1::pI v80.2.1::pS v80.2.2.1::pLs cE v80.2.2.2::[])) (by rw [e81];rfl) rfl rfl rfl (pimps (fun _ _ _ h=>h) <| pimps (fun _ _ _ h=>h) <| pimps (fun _ _ _ h=>h) <| pimps (fun _ _ _ h=>h) <| ze) rfl,trivial⟩) ?_
 have s82:zD (mainX v81)=0:=by (subst e81;subst e80;subst e79;decide +kernel)
 have s83:SbW (mainX v81):=by (subst e81;subst e80;subst e79;unfold SbW;decide +kernel)
 have s84:runP (mainX v81) [] (0,0,0)=([],(3:Int)):=by (subst e81;subst e80;subst e79;kernel_rfl)
 refine rx [] [] [] (fun t u w=>⟨zE (zaQ hL (3:Int) v81   s82 s83 s84),trivial⟩) ?_
 obtain ⟨v85,e85⟩:=LX (sideX (1:Int) (0:Int))
 refine cx (.o (.g [sI v85.1,sI v85.2.1,sS v85.2.2.1,.ls 3 cE kE v85.2.2.2])) (zdB (1:Int) (0:Int) v85 e85) rfl ?_
 obtain ⟨v86,e86⟩:=LX (([v85]:List Stm))
 refine rx [.ls 4 cSt kSt v86] [] [] (fun t u w=>⟨e_dat (c:=cSt) (l:=([v85]:List Stm)) (ps:=(pI v85.1::pI v85.2.1::pS v85.2.2.1::pLs cE v85.2.2.2::[])) (qs:=(pI v85.1::pI v85.2.1::pS v85.2.2.1::pLs cE v85.2.2.2::[])) (by rw [e86];rfl) rfl rfl rfl (pimps (fun _ _ _ h=>h) <| pimps (fun _ _ _ h=>h) <| pimps (fun _ _ _ h=>h) <| pimps (fun _ _ _ h=>h) <| ze) rfl,trivial⟩) ?_
 have s87:zD (mainX v86)=0:=by (subst e86;subst e85;decide +kernel)
 have s88:SbW (mainX v86):=by (subst e86;subst e85;unfold SbW;decide +kernel)
 have s89:runP (mainX v86) [] (0,0,0)=([],(3:Int)):=by (subst e86;subst e85;kernel_rfl)
 refine rx [] [] [] (fun t u w=>⟨zE (zaQ hL (3:Int) v86   s87 s88 s89),trivial⟩) ?_
 obtain ⟨v90,e90⟩:=LX (([((5:Int),(0:Int),[115,105,100,101],[])]:List Stm))
 refine rx [.ls 4 cSt kSt v90] [] [] (fun t u w=>⟨e_dat (c:=cSt) (l:=([((5:Int),(0:Int),[115,105,100,101],[])]:List Stm)) (ps:=(pV (.int .i64 5)::pV (.int .i64 0)::pV (.string ⟨#[115,105,100,101]⟩)::pV (.slice none 0 0)::[])) (qs:=(pI ((5:Int),(0:Int),[115,105,100,101],[]).1::pI ((5:Int),(0:Int),[115,105,100,101],[]).2.1::pS ((5:Int),(0:Int),[115,105,100,101],[]).2.2.1::pLs cE (((5:Int),(0:Int),[115,105,100,101],[]).2.2.2)::[])) (by rw [e90];rfl) rfl rfl rfl (pimps (fun _ _ _ h=>h) <| pimps (fun _ _ _ h=>h) <| pimps (fun _ _ _ h=>h) <| pimps (nil_X) <| ze) rfl,trivial⟩) ?_
 have s91:zD (mainX v90)=0:=by (subst e90;decide +kernel)
 have s92:SbW (mainX v90):=by (subst e90;unfold SbW;decide +kernel)
 have s93:runP (mainX v90) [] (0,0,0)=([],(18:Int)):=by (subst e90;kernel_rfl)
 refine rx [] [] [] (fun t u w=>⟨zE (zaQ hL (18:Int) v90   s91 s92 s93),trivial⟩) ?_
 obtain ⟨v94,e94⟩:=LX (([((1:Int),((0:Int),(0:Int),(0:Int)),v1,((0:Int),(0:Int),(0:Int)),(0:Int)),((2:Int),v1,v2,((0:Int),(0:Int),(0:Int)),(10:Int))]:List Mov))
 refine rx [.ls 11 cM kM v94] [] [] (fun t u w=>⟨e_dat (c:=cM) (l:=([((1:Int),((0:Int),(0:Int),(0:Int)),v1,((0:Int),(0:Int),(0:Int)),(0:Int)),((2:Int),v1,v2,((0:Int),(0:Int),(0:Int)),(10:Int))]:List Mov)) (ps:=(pV (.int .i64 1)::pV (.int .i64 0)::pV (.int .i64 0)::pV (.int .i64 0)::pI v1.1::pI v1.2.1::pI v1.2.2::pV (.int .i64 0)::pV (.int .i64 0)::pV (.int .i64 0)::pV (.int .i64 0)::pV (.int .i64 2)::pI v1.1::pI v1.2.1::pI v1.2.2::pI v2.1::pI v2.2.1::pI v2.2.2::pV (.int .i64 0)::pV (.int .i64 0)::pV (.int .i64 0)::pV (.int .i64 10)::[])) (qs:=(pI ((1:Int),((0:Int),(0:Int),(0:Int)),v1,((0:Int),(0:Int),(0:Int)),(0:Int)).1::pI ((1:Int),((0:Int),(0:Int),(0:Int)),v1,((0:Int),(0:Int),(0:Int)),(0:Int)).2.1.1::pI ((1:Int),((0:Int),(0:Int),(0:Int)),v1,((0:Int),(0:Int),(0:Int)),(0:Int)).2.1.2.1::pI ((1:Int),((0:Int),(0:Int),(0:Int)),v1,((0:Int),(0:Int),(0:Int)),(0:Int)).2.1.2.2::pI ((1:Int),((0:Int),(0:Int),(0:Int)),v1,((0:Int),(0:Int),(0:Int)),(0:Int)).2.2.1.1::pI ((1:Int),((0:Int),(0:Int),(0:Int)),v1,((0:Int),(0:Int),(0:Int)),(0:Int)).2.2.1.2.1::pI ((1:Int),((0:Int),(0:Int),(0:Int)),v1,((0:Int),(0:Int),(0:Int)),(0:Int)).2.2.1.2.2::pI ((1:Int),((0:Int),(0:Int),(0:Int)),v1,((0:Int),(0:Int),(0:Int)),(0:Int)).2.2.2.1.1::pI ((1:Int),((0:Int),(0:Int),(0:Int)),v1,((0:Int),(0:Int),(0:Int)),(0:Int)).2.2.2.1.2.1::pI ((1:Int),((0:Int),(0:Int),(0:Int)),v1,((0:Int),(0:Int),(0:Int)),(0:Int)).2.2.2.1.2.2::pI ((1:Int),((0:Int),(0:Int),(0:Int)),v1,((0:Int),(0:Int),(0:Int)),(0:Int)).2.2.2.2::pI ((2:Int),v1,v2,((0:Int),(0:Int),(0:Int)),(10:Int)).1::pI ((2:Int),v1,v2,((0:Int),(0:Int),(0:Int)),(10:Int)).2.1.1::pI ((2:Int),v1,v2,((0:Int),(0:Int),(0:Int)),(10:Int)).2.1.2.1::pI ((2:Int),v1,v2,((0:Int),(0:Int),(0:Int)),(10:Int)).2.1.2.2::pI ((2:Int),v1,v2,((0:Int),(0:Int),(0:Int)),(10:Int)).2.2.1.1::pI ((2:Int),v1,v2,((0:Int),(0:Int),(0:Int)),(10:Int)).2.2.1.2.1::pI ((2:Int),v1,v2,((0:Int),(0:Int),(0:Int)),(10:Int)).2.2.1.2.2::pI ((2:Int),v1,v2,((0:Int),(0:Int),(0:Int)),(10:Int)).2.2.2.1.1::pI ((2:Int),v1,v2,((0:Int),(0:Int),(0:Int)),(10:Int)).2.2.2.1.2.1::pI ((2:Int),v1,v2,((0:Int),(0:Int),(0:Int)),(10:Int)).2.2.2.1.2.2::pI ((2:Int),v1,v2,((0:Int),(0:Int),(0:Int)),(10:Int)).2.2.2.2::[])) (by rw [e94];rfl) rfl rfl rfl (pimps (fun _ _ _ h=>h) <| pimps (fun _ _ _ h=>h) <| pimps (fun _ _ _ h=>h) <| pimps (fun _ _ _ h=>h) <| pimps (fun _ _ _ h=>h) <| pimps (fun _ _ _ h=>h) <| pimps (fun _ _ _ h=>h) <| pimps (fun _ _ _ h=>h) <| pimps (fun _ _ _ h=>h) <| pimps (fun _ _ _ h=>h) <| pimps (fun _ _ _ h=>h) <| pimps (fun _ _ _ h=>h) <| pimps (fun _ _ _ h=>h) <| pimps (fun _ _ _ h=>h) <| pimps (fun _ _ _ h=>h) <| pimps (fun _ _ _ h=>h) <| pimps (fun _ _ _ h=>h) <| pimps (fun _ _ _ h=>h) <| pimps (fun _ _ _ h=>h) <| pimps (fun _ _ _ h=>h) <| pimps (fun _ _ _ h=>h) <| pimps (fun _ _ _ h=>h) <| ze) rfl,trivial⟩) ?_
 obtain ⟨v95,e95⟩:=LX ((findP v94 (10:Int)).1)
 obtain ⟨v96,e96⟩:=LX ((findP v94 (10:Int)).2.1)
 obtain ⟨v97,e97⟩:=LX ((findP v94 (10:Int)).2.2)
 have s98:v94.length<9223372036854775808:=by (subst e94;subst e2;subst e1;decide +kernel)
 have s99:∀x∈v94,goodM x:=by (subst e94;subst e2;subst e1;unfold goodM;decide +kernel)
 have s100:(10:Int)<9223372036854775808:=by (decide +kernel)
 refine cx (.t [.c (sI v95),.c (sI v96),.c (sB v97)]) (zmy v94 (10:Int) v95 v96 v97 e95 e96 e97 s98 s99 s100) rfl ?_
 obtain ⟨v101,e101⟩:=LX (zjl v94)
 have s102:v94.length<9223372036854775808:=by (subst e94;subst e2;subst e1;decide +kernel)
 have s103:∀x∈v94,goodM x:=by (subst e94;subst e2;subst e1;unfold goodM;decide +kernel)
 refine cx (.o (.c (sI v101))) (zou v94 v101 e101 s102 s103) rfl ?_
 intro v104 e104
 have s105:v104=true:=by (subst e104;subst e101;subst e94;subst e2;subst e1;decide +kernel)
 refine ai s105 ?_
 have s106:v94.length<9223372036854775808:=by (subst e94;subst e2;subst e1;decide +kernel)
 have s107:∀x∈v94,goodM x:=by (subst e94;subst e2;subst e1;unfold goodM;decide +kernel)
 have s108:(0:Int)<9223372036854775808:=by (decide +kernel)
 have s109:findP v94 (0:Int)=((0:Int),(0:Int),true):=by (subst e94;subst e2;subst e1;decide +kernel)
 refine rx [] [] [] (fun t u w=>⟨zE (ze8 v94 (0:Int) (0:Int) (0:Int)   s106 s107 s108 s109),trivial⟩) ?_
 have s110:v94.length<9223372036854775808:=by (subst e94;subst e2;subst e1;decide +kernel)
 have s111:∀x∈v94,goodM x:=by (subst e94;subst e2;subst e1;unfold goodM;decide +kernel)
 have s112:(5:Int)<9223372036854775808:=by (decide +kernel)
 have s113:findP v94 (5:Int)=((0:Int),(5:Int),true):=by (subst e94;subst e2;subst e1;decide +kernel)
 refine rx [] [] [] (fun t u w=>⟨zE (ze8 v94 (5:Int) (0:Int) (5:Int)   s110 s111 s112 s113),trivial⟩) ?_
 have s114:v94.length<9223372036854775808:=by (subst e94;subst e2;subst e1;decide +kernel)
 have s115:∀x∈v94,goodM x:=by (subst e94;subst e2;subst e1;unfold goodM;decide +kernel)
 have s116:(6:Int)<9223372036854775808:=by (decide +kernel)
 have s117:findP v94 (6:Int)=((1:Int),(1:Int),true):=by (subst e94;subst e2;subst e1;decide +kernel)
 refine rx [] [] [] (fun t u w=>⟨zE (ze8 v94 (6:Int) (1:Int) (1:Int)   s114 s115 s116 s117),trivial⟩) ?_
 have s118:v94.length<9223372036854775808:=by (subst e94;subst e2;subst e1;decide +kernel)
 have s119:∀x∈v94,goodM x:=by (subst e94;subst e2;subst e1;unfold goodM;decide +kernel)
 have s120:(9:Int)<9223372036854775808:=by (decide +kernel)
 have s121:findP v94 (9:Int)=((1:Int),(4:Int),true):=by (subst e94;subst e2;subst e1;decide +kernel)
 refine rx [] [] [] (fun t u w=>⟨zE (ze8 v94 (9:Int) (1:Int) (4:Int)   s118 s119 s120 s121),trivial⟩) ?_
 intro v122 e122
 intro hc
 refine Fun.fin (r:=.o (.c (pB v122))) (zc (hc)) (fun v W D h=>?_)
 have q:true=v122:=by (subst e122;subst e97;subst e94;subst e2;subst e1;decide +kernel)
 rw [q];exact h
def sg (x:Int):Int:=if 0<x then 1 else if x<0 then -1 else 0
def smV (v:Vec):Prop:=(-1000≤v.1∧v.1≤1000)∧(-1000≤v.2.1∧v.2.1≤1000)∧(-1000≤v.2.2∧v.2.2≤1000)
theorem wI_eq {x:Int} (h:-1000000≤x∧x≤1000000):wI x=x:=wri (by omega)
theorem zpD {x:Int} (h:-3000≤x∧x≤3000) (h0:x≠0):wI (x.tdiv (x.natAbs:Int))=sg x:=by
 unfold sg
 rcases Int.lt_or_gt_of_ne h0 with hx | hx
 ·rw [if_neg (by omega),if_pos hx]
  have e:(x.natAbs:Int)=-x:=by omega
  rw [e,Int.tdiv_neg,Int.tdiv_self h0];rfl
 ·rw [if_pos hx]
  have e:(x.natAbs:Int)=x:=by omega
  rw [e,Int.tdiv_self h0];rfl
theorem zso {a b:Vec} (ha:smV a) (hb:smV b):subV b a=(b.1 - a.1,b.2.1 - a.2.1,b.2.2 - a.2.2):=by
 unfold subV
 obtain ⟨h1,h2,h3⟩:=ha
 obtain ⟨h4,h5,h6⟩:=hb
 rw [wI_eq (by omega),wI_eq (by omega),wI_eq (by omega)]
theorem zwo {a b:Vec} (ha:smV a) (hb:smV b):addV a b=(a.1+b.1,a.2.1+b.2.1,a.2.2+b.2.2):=by
 unfold addV
 obtain ⟨h1,h2,h3⟩:=ha
 obtain ⟨h4,h5,h6⟩:=hb
 rw [wI_eq (by omega),wI_eq (by omega),wI_eq (by omega)]
theorem in_sm {v:Vec} (h:inV v=true):smV v:=by
 have:=zeD.1 h
 exact ⟨by omega,by omega,by omega⟩
section
variable {fr:Vec} {pts ws:List Vec} {left:Int} {feeds:List Int}
end
section
variable {fr:Vec} {pts ws:List Vec} {left n s:Int} {feeds:List Int}
end
section
variable {fr:Vec} {pts ws:List Vec} {left n s:Int}
end
section
variable {side n:Int} {pts:List Vec} (hk:side=1∨side=2) (hn:1≤n∧n≤4) (hp:∀q∈pts,inV q=true) (hl:pts.length≤90)
include hk hn hp hl
end
def cTn (x:Int×Int):List Pred:=[pV (.int .u8 x.1),pV (.int .u8 x.2)]
def kTn (x:Int×Int):List SV:=[.v (.int .u8 x.1),.v (.int .u8 x.2)]
instance {w0:World} {x:Int×Int}:FiL (KN w0) (kTn x):=inferInstanceAs (FiL (KN w0) [_,_])
instance {w0:World} {xs:List (Int×Int)}:Fi (KN w0) (.ls 2 cTn kTn xs):=fi_ls (fun _=>rfl) (fun _=>inferInstance) (fun _=>rfl)
end Go.Proofs.YteimplkdcjapdaaGreatDoor
