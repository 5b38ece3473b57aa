/-
  Merged: PlB, PlC, PbA, PbB, PbC, PbD, PbE.
-/
import Derived.Test.YteimplkdcjapdaaGreatDoorMpT
set_option linter.unusedSimpArgs false
set_option linter.unusedVariables false
set_option linter.unusedSectionVars false
set_option maxRecDepth 100000
namespace Go.Proofs.YteimplkdcjapdaaGreatDoor
open Go.RowKit
def expM:Vec→List Vec→List Int→List Mov
 | a,p::r,f::fs=>(if f=0 then 1 else 2,a,p,(0,0,0),f)::expM p r fs
 | _,_,_=>[]
theorem zir {a p:Vec} {f:Int} {x:Mov} {tos:List Vec} {fs:List Int} {mv:List Mov} {k:Nat} (hp:tos[k]?=some p) (hf:fs[k]?=some f) (hx:mv[k]?=some x) (h:expM a (tos.drop k) (fs.drop k)=mv.drop k):x=(if f=0 then 1 else 2,a,p,(0,0,0),f)∧expM x.2.2.1 (tos.drop (k+1)) (fs.drop (k+1))=mv.drop (k+1):=by
 obtain ⟨h1,rfl⟩:=List.getElem?_eq_some_iff.1 hp
 obtain ⟨h2,rfl⟩:=List.getElem?_eq_some_iff.1 hf
 obtain ⟨h3,rfl⟩:=List.getElem?_eq_some_iff.1 hx
 rw [List.drop_eq_getElem_cons h1,List.drop_eq_getElem_cons h2,List.drop_eq_getElem_cons h3,expM] at h
 injection h with a1 a2
 exact ⟨a1.symm,by rw [← a1];exact a2⟩
def zmr:Tr:=.s [(2,.call 30 [1] (.o .c)),(4,.call 16 [2,LF (.k (.slice none 0 0)),.o (.g [kI 0,kI 0,kI 0])] (.t [.c,.c])),(12,.bin .eql 37 4 0),(0,.fb 5 true),(15,.ln 36 3 3),(16,.bin .eql 3 6 (kI 0))] (.z (.ret false (7) []))
theorem zaK {w0:World} (hL:LibP w0) (want:Int) (l:List Stm) (h:zG (mainX l)=0) (hw:SbW (mainX l)) (hr:runP (mainX l) [] (0,0,0)=([],want)):Fun (KN w0) Tryz.prog 46 [.o (.c (pI want)),.o (.c (pLs cSt l))] (.o (.c (pB true))):=by
 refine tfn w0 46 ⟨[0,1],[],[],0,0⟩ ⟨2,[.ls 4 cSt kSt l,sI want],[],[]⟩ zmr (by kernel_rfl) ?_
 obtain ⟨v1,e1⟩:=LX (mainX l)
 refine cx (.o (.c (.ls 3 cSb kSb v1))) (zgz l v1 e1) rfl ?_
 obtain ⟨v2,e2⟩:=LX ((runP v1 ([]:List Int) ((0:Int),(0:Int),(0:Int))).1)
 obtain ⟨v3,e3⟩:=LX ((runP v1 ([]:List Int) ((0:Int),(0:Int),(0:Int))).2)
 have s4:zG v1=0:=by (rw [← e1];exact h)
 have s5:SbW v1:=by (rw [← e1];exact hw)
 refine cx (.t [.c (.ls 11 cM kM v2),.c (sI v3)]) (Fun.imp (as2:=[.o (.c (pLs cSb v1)),.o (.c (pV (.slice none 0 0))),.o (.g [pV (.int .i64 0),pV (.int .i64 0),pV (.int .i64 0)])]) (zek hL v1 ([]:List Int) ((0:Int),(0:Int),(0:Int)) v2 v3 e2 e3 s4 s5) (zbl ⟨fun _ _ _ h=>h,fun _ _ _ h=>nil_I _ _ _ h,fun _ _ _ h=>h,trivial⟩) (fun _ _ _ h=>h)) rfl ?_
 intro v6 e6
 have s7:v6=true:=by (rw [← e6,← e3,← e1,hr];exact beq_self_eq_true want)
 refine ai s7 ?_
 intro v8 e8 v9 e9
 intro hc
 refine Fun.fin (r:=.o (.c (pB v9))) (zc (hc)) (fun v W D h=>?_)
 have q:true=v9:=(by rw [← e9,← e8,← e2,← e1,hr];rfl)
 rw [q];exact h
def ze8:List Atom:=[.sl 1 1,.sl 2 2,.sl 9 (.o (.c (.p 26 0))),.sl 36 3,.sl 37 12,.sl 38 13,.bx 26 26 [.h 14,.h 15,.h 16]]
def zl2:LoopS:=⟨6,ze8.map (tnA (jf (hZ 13 [kI 0,kI 0,kI 0,kI 0])) (kf []) (kf [])),(.x 0),(drs [5,6] ze8)⟩
def zru:Tr:=.s [(0,.fb 5 false),(0,.fb 8 false),(0,.fb 11 false),(6000,.bin .lss 3 13 12)] (.b 17 (.s [(6002,.ia 36 45 11 3 13),(6003,.ld 45 11 18),(6010,.ia 35 26 3 1 13),(6011,.ld 26 3 30),(6014,.ia 24 3 1 2 13),(6015,.ld 3 0 34),(6021,.ia 24 3 1 2 13),(6022,.ld 3 0 36),(6023,.bin .eql 3 37 (kI 0))] (.b 38 (.s [(0,.raw [(1006028,.bin .neq 45 (.o (.g [19,20,21,22,23,24,25,26,27,28,29])) (.o (.g [.k (.int .i64 1),14,15,16,31,32,33,.k (.int .i64 0),.k (.int .i64 0),.k (.int .i64 0),35])) 39)] 1),(0,.fb 39 false),(6032,.bin .add 3 13 (kI 1))] (.z (.nx (hZ 13 [40,23,24,25]) [] []))) (.s [(0,.raw [(1006026,.bin .neq 45 (.o (.g [19,20,21,22,23,24,25,26,27,28,29])) (.o (.g [.k (.int .i64 2),14,15,16,31,32,33,.k (.int .i64 0),.k (.int .i64 0),.k (.int .i64 0),35])) 39)] 1),(0,.fb 39 false),(6030,.bin .add 3 13 (kI 1))] (.z (.nx (hZ 13 [40,23,24,25]) [] []))))) (.z (.xt (.x 0) (hZ 13 []) [] [])))
theorem zp1 {w0:World} (l:(List Sb)) (tos:(List Vec)) (feeds:(List Int)) (v1:(List Mov)) (v2:Int) (v5:Bool) (v7:Int) (v8:Int) (v9:Bool) (v11:Int) (v12:Int) (v13:Bool) (v15:Int) (s6:v5=false) (s10:v9=false) (s14:v13=false) (hv:(v1.length:Int)=v15) (hl1:tos.length=v1.length) (hl2:feeds.length=v1.length) (hb:v1.length≤1000) (hO:expM ((0:Int),(0:Int),(0:Int)) tos feeds=v1):LpH (KN w0) Tryz.prog 45 ⟨ntOf Tryz.prog 45,[],[]⟩ zl2 0 ⟨13,[sI v15,sB v13,sI v12,sI v11,sB v9,sI v8,sI v7,sB v5,sI v2,.ls 11 cM kM v1,.ls 1 cI kIc feeds,.ls 3 cV kV tos,.ls 3 cSb kSb l],[],[]⟩:=by
 refine zq _ ⟨ze8,zl2,(17,0,0),(13,0,0),6000⟩ (T:=Int×Vec) (fun t=>⟨17,[sI t.2.2.2,sI t.2.2.1,sI t.2.1,sI t.1,sI v15,sB v13,sI v12,sI v11,sB v9,sI v8,sI v7,sB v5,sI v2,.ls 11 cM kM v1,.ls 1 cI kIc feeds,.ls 3 cV kV tos,.ls 3 cSb kSb l],[],[]⟩) (fun (i,at_)=>∃k:Nat,i=(k:Int)∧k≤v1.length∧expM at_ (tos.drop k) (feeds.drop k)=v1.drop k) (fun (i,at_)=>(v15 - i).toNat) ((0:Int),((0:Int),(0:Int),(0:Int))) (hZ 13 [kI 0,kI 0,kI 0,kI 0]) [] [] zru mixed ⟨0,rfl,Nat.zero_le _,hO⟩ rfl rfl rfl rfl (fun _=>rfl) rfl rfl (by kernel_rfl) ?_
 rintro ⟨i,at_⟩ hJ
 dsimp only at hJ ⊢
 obtain ⟨k,hi,hk,hs⟩:=hJ
 refine ai s6 ?_
 refine ai s10 ?_
 refine ai s14 ?_
 intro v501 e501
 refine ai (fun h502=>?_) fun h502=>?_
 ·
  refine ai (by (have dh502:=LD e501 h502;have hlt:k<v1.length:=(by omega);exact ⟨k,_,hi,List.getElem?_eq_getElem hlt⟩)) fun n503 x504 s505 s506=>?_
  refine ai (by (have dh502:=LD e501 h502;have hlt:k<tos.length:=(by omega);exact ⟨k,_,hi,List.getElem?_eq_getElem hlt⟩)) fun n507 x508 s509 s510=>?_
  refine ai (by (have dh502:=LD e501 h502;have hlt:k<feeds.length:=(by omega);exact ⟨k,_,hi,List.getElem?_eq_getElem hlt⟩)) fun n511 x512 s513 s514=>?_
  refine ai (by (have dh502:=LD e501 h502;have hlt:k<feeds.length:=(by omega);exact ⟨k,_,hi,List.getElem?_eq_getElem hlt⟩)) fun n515 x516 s517 s518=>?_
  intro v519 e519
  refine ai (fun h520=>?_) fun h520=>?_
  ·
   obtain ⟨v521,e521⟩:=LX (!decide (x504=((1:Int),at_,x508,((0:Int),(0:Int),(0:Int)),x512)))
   refine rx [sB v521] [] [] (fun t u w=>⟨e_eqM (x:=x504) (y:=((1:Int),at_,x508,((0:Int),(0:Int),(0:Int)),x512)) (neg:=true) ⟨(za rfl),(za rfl),(za rfl),(za rfl),(za rfl),(za rfl),(za rfl),(za rfl),(za rfl),(za rfl),(za rfl),trivial⟩ ⟨zd,(za rfl),(za rfl),(za rfl),(za rfl),(za rfl),(za rfl),zd,zd,zd,(za rfl),trivial⟩ (za (by rw [e521];rfl)),trivial⟩) ?_
   have s522:v521=false:=by (have dh502:=LD e501 h502;have dh520:=eq_of_beq (e519.trans h520);have qn503:n503=k:=(by omega);have qn507:n507=k:=(by omega);have qn511:n511=k:=(by omega);have qn515:n515=k:=(by omega);rw [qn503] at s506;rw [qn507] at s510;rw [qn511] at s514;rw [qn515] at s518;have hx:=(zir s510 s514 s506 hs).1;have z0:x516=x512:=Option.some.inj (s518.symm.trans s514);rw [← e521,hx];simp_all)
   refine ai s522 ?_
   intro v523 e523
   refine nxl (v523,x504.2.2.1) ?_ ?_ rfl
   all_goals (have dh502:=LD e501 h502;have dh520:=eq_of_beq (e519.trans h520);have qn503:n503=k:=(by omega);have qn507:n507=k:=(by omega);have qn511:n511=k:=(by omega);have qn515:n515=k:=(by omega);rw [qn503] at s506;rw [qn507] at s510;rw [qn511] at s514;rw [qn515] at s518;have hx:=(zir s510 s514 s506 hs).2;have hlt:=(List.getElem?_eq_some_iff.1 s506).1;have x3:v523=((k+1:Nat):Int):=(by rw [← e523,hi,wri (by omega)];omega))
   ·show (v15 - v523).toNat<(v15 - i).toNat
    omega
   ·exact ⟨k+1,x3,by omega,hx⟩
  ·
   obtain ⟨v521,e521⟩:=LX (!decide (x504=((2:Int),at_,x508,((0:Int),(0:Int),(0:Int)),x512)))
   refine rx [sB v521] [] [] (fun t u w=>⟨e_eqM (x:=x504) (y:=((2:Int),at_,x508,((0:Int),(0:Int),(0:Int)),x512)) (neg:=true) ⟨(za rfl),(za rfl),(za rfl),(za rfl),(za rfl),(za rfl),(za rfl),(za rfl),(za rfl),(za rfl),(za rfl),trivial⟩ ⟨zd,(za rfl),(za rfl),(za rfl),(za rfl),(za rfl),(za rfl),zd,zd,zd,(za rfl),trivial⟩ (za (by rw [e521];rfl)),trivial⟩) ?_
   have s522:v521=false:=by (have dh502:=LD e501 h502;have dh520:=ne_of_beq_false (e519.trans h520);have qn503:n503=k:=(by omega);have qn507:n507=k:=(by omega);have qn511:n511=k:=(by omega);have qn515:n515=k:=(by omega);rw [qn503] at s506;rw [qn507] at s510;rw [qn511] at s514;rw [qn515] at s518;have hx:=(zir s510 s514 s506 hs).1;have z0:x516=x512:=Option.some.inj (s518.symm.trans s514);rw [← e521,hx];simp_all)
   refine ai s522 ?_
   intro v523 e523
   refine nxl (v523,x504.2.2.1) ?_ ?_ rfl
   all_goals (have dh502:=LD e501 h502;have dh520:=ne_of_beq_false (e519.trans h520);have qn503:n503=k:=(by omega);have qn507:n507=k:=(by omega);have qn511:n511=k:=(by omega);have qn515:n515=k:=(by omega);rw [qn503] at s506;rw [qn507] at s510;rw [qn511] at s514;rw [qn515] at s518;have hx:=(zir s510 s514 s506 hs).2;have hlt:=(List.getElem?_eq_some_iff.1 s506).1;have x3:v523=((k+1:Nat):Int):=(by rw [← e523,hi,wri (by omega)];omega))
   ·show (v15 - v523).toNat<(v15 - i).toNat
    omega
   ·exact ⟨k+1,x3,by omega,hx⟩
 ·
  rfl
def zoj:Tr:=.s [(3,.call 16 [0,LF (.k (.slice none 0 0)),.o (.g [kI 0,kI 0,kI 0])] (.t [.c,.c])),(10,.bin .neq 37 4 (kI 0)),(0,.fb 5 false),(13,.ln 36 3 3),(15,.ln 35 3 1),(16,.bin .neq 3 6 7),(0,.fb 8 false),(20,.ln 24 3 2),(22,.ln 35 3 1),(23,.bin .neq 3 9 10),(0,.fb 11 false),(29,.ln 36 3 3),(0,.lp zl2 0 0)] (.z (.ret false (LF (kB true)) []))
theorem zmC {w0:World} (hL:LibP w0) (l:List Sb) (tos:List Vec) (feeds:List Int) (h:zG l=0) (hw:SbW l) (hr:runP l [] (0,0,0)=(expM (0,0,0) tos feeds,0)) (hlen:tos.length=feeds.length) (hx:(expM (0,0,0) tos feeds).length=tos.length) (hb:tos.length≤1000):Fun (KN w0) Tryz.prog 45 [.o (.c (pLs cSb l)),.o (.c (pLs cV tos)),.o (.c (pLs cI feeds))] (.o (.c (pB true))):=by
 refine tfn w0 45 ⟨[0,1,2],[],[],0,0⟩ ⟨3,[.ls 1 cI kIc feeds,.ls 3 cV kV tos,.ls 3 cSb kSb l],[],[]⟩ zoj (by kernel_rfl) ?_
 obtain ⟨v1,e1⟩:=LX ((runP l ([]:List Int) ((0:Int),(0:Int),(0:Int))).1)
 obtain ⟨v2,e2⟩:=LX ((runP l ([]:List Int) ((0:Int),(0:Int),(0:Int))).2)
 have s3:zG l=0:=by exact h
 have s4:SbW l:=by exact hw
 refine cx (.t [.c (.ls 11 cM kM v1),.c (sI v2)]) (Fun.imp (as2:=[.o (.c (pLs cSb l)),.o (.c (pV (.slice none 0 0))),.o (.g [pV (.int .i64 0),pV (.int .i64 0),pV (.int .i64 0)])]) (zek hL l ([]:List Int) ((0:Int),(0:Int),(0:Int)) v1 v2 e1 e2 s3 s4) (zbl ⟨fun _ _ _ h=>h,fun _ _ _ h=>nil_I _ _ _ h,fun _ _ _ h=>h,trivial⟩) (fun _ _ _ h=>h)) rfl ?_
 intro v5 e5
 have s6:v5=false:=by (rw [← e5,← e2,hr];simp [hx,hlen])
 refine ai s6 ?_
 intro v7 e7 v8 e8 v9 e9
 have s10:v9=false:=by (rw [← e9,← e7,← e8,← e1,hr];simp [hx,hlen])
 refine ai s10 ?_
 intro v11 e11 v12 e12 v13 e13
 have s14:v13=false:=by (rw [← e13,← e11,← e12];simp [hx,hlen])
 refine ai s14 ?_
 intro v15 e15
 refine rx [] [] [] (zp1 l tos feeds v1 v2 v5 v7 v8 v9 v11 v12 v13 v15 s6 s10 s14   e15 (by rw [← e1,hr];exact hx.symm) (by rw [← e1,hr];exact (hx.trans hlen).symm) (by rw [← e1,hr];dsimp only;omega) (by rw [← e1,hr])) ?_
 intro hc
 refine Fun.fin (r:=.o (.c (pV (.bool true)))) (zc (hc)) (fun v W D h=>?_)
 exact h
def zms:Tr:=.s [(3,.call 26 [0,1] (.t [.c,.c,.c])),(0,.fb 6 true),(15,.bin .eql 3 4 2),(0,.fb 7 true),(20,.bin .eql 3 5 3)] (.z (.ret false (8) []))
theorem zff {w0:World} (l:List Mov) (s k0 i0:Int) (hb:l.length<9223372036854775808) (hg:∀x∈l,goodM x) (hs:s<9223372036854775808) (hf:findP l s=(k0,i0,true)):Fun (KN w0) Tryz.prog 47 [.o (.c (pLs cM l)),.o (.c (pI s)),.o (.c (pI k0)),.o (.c (pI i0))] (.o (.c (pB true))):=by
 refine tfn w0 47 ⟨[0,1,2,3],[],[],0,0⟩ ⟨4,[sI i0,sI k0,sI s,.ls 11 cM kM l],[],[]⟩ zms (by kernel_rfl) ?_
 obtain ⟨v1,e1⟩:=LX ((findP l s).1)
 obtain ⟨v2,e2⟩:=LX ((findP l s).2.1)
 obtain ⟨v3,e3⟩:=LX ((findP l s).2.2)
 have s4:l.length<9223372036854775808:=by omega
 have s5:∀x∈l,goodM x:=by exact hg
 have s6:s<9223372036854775808:=by omega
 refine cx (.t [.c (sI v1),.c (sI v2),.c (sB v3)]) (zmA l s v1 v2 v3 e1 e2 e3 s4 s5 s6) rfl ?_
 have s7:v3=true:=by (rw [← e3,hf])
 refine ai s7 ?_
 intro v8 e8
 have s9:v8=true:=by (rw [← e8,← e1,hf];simp)
 refine ai s9 ?_
 intro v10 e10
 intro hc
 refine Fun.fin (r:=.o (.c (pB v10))) (zc (hc)) (fun v W D h=>?_)
 have q:true=v10:=(by rw [← e10,← e2,hf];simp)
 rw [q];exact h
end Go.Proofs.YteimplkdcjapdaaGreatDoor
namespace Go.Proofs.YteimplkdcjapdaaGreatDoor
open Go.RowKit
def zjZ:Tr:=.s [(1,.call 21 [LF (kI 0),LF (kI 0),LF (kI 5)] (.o (.g 3))),(2,.call 21 [LF (kI 4),LF (kI 0),LF (kI 5)] (.o (.g 3))),(8,.call 43 [.o (.g [0,1,2])] (.o (.g 4))),(10,.call 29 [.o (.g [3,4,5]),LF (kI 10)] (.o (.g 4))),(12,.call 29 [.o (.g [3,4,5]),LF (kI 20)] (.o (.g 4))),(0,.raw [(1000013,.dat 62 3 [.h 6,.h 7,.h 8,.h 9,.h 10,.h 11,.h 12,.h 13,.h 14,.h 15,.h 16,.h 17] 18)] 1),(14,.call 30 [18] (.o .c)),(16,.call 21 [LF (kI 10),LF (kI 0),LF (kI 0)] (.o (.g 3))),(17,.call 29 [.o (.g [20,21,22]),LF (kI 5)] (.o (.g 4))),(18,.call 21 [LF (kI 10),LF (kI 8),LF (kI 0)] (.o (.g 3))),(19,.call 29 [.o (.g [27,28,29]),LF (kI 6)] (.o (.g 4))),(20,.call 21 [LF (kI 4),LF (kI 0),LF (kI 0)] (.o (.g 3))),(21,.call 29 [.o (.g [34,35,36]),LF (kI 5)] (.o (.g 4))),(28,.call 44 [LF (kI 1),LF (kI 2)] (.o (.g 4))),(29,.call 44 [LF (kI 2),LF (kI 2)] (.o (.g 4))),(30,.call 44 [LF (kI 0),LF (kI 0)] (.o (.g 4))),(0,.raw [(1000040,.dat 26 2 [.h 0,.h 1,.h 2,.h 3,.h 4,.h 5] 53)] 1),(0,.raw [(1000041,.dat 3 2 [.k (.int .i64 0),.k (.int .i64 10)] 54)] 1),(0,.raw [(1000042,.call ⟨45,[19,53,54],[],.o (.c (.k (.bool true))),[]⟩)] 0),(0,.raw [(1000048,.dat 62 4 [.h 41,.h 42,.h 43,.h 44,.h 23,.h 24,.h 25,.h 26,.h 30,.h 31,.h 32,.h 33,.h 49,.h 50,.h 51,.h 52] 55)] 1),(49,.call 30 [55] (.o .c)),(50,.call 21 [LF (kI 0),LF (kI 2),LF (kI 0)] (.o (.g 3))),(51,.call 21 [LF (kI 8),LF (kI 2),LF (kI 0)] (.o (.g 3))),(52,.call 21 [LF (kI 8),LF (kI 8),LF (kI 0)] (.o (.g 3))),(0,.raw [(1000053,.dat 26 3 [.h 57,.h 58,.h 59,.h 60,.h 61,.h 62,.h 63,.h 64,.h 65] 66)] 1),(0,.raw [(1000054,.dat 3 3 [.k (.int .i64 5),.k (.int .i64 5),.k (.int .i64 6)] 67)] 1),(0,.raw [(1000055,.call ⟨45,[56,66,67],[],.o (.c (.k (.bool true))),[]⟩)] 0),(0,.raw [(1000062,.dat 62 4 [.h 45,.h 46,.h 47,.h 48,.h 23,.h 24,.h 25,.h 26,.h 30,.h 31,.h 32,.h 33,.h 49,.h 50,.h 51,.h 52] 68)] 1),(63,.call 30 [68] (.o .c)),(64,.call 21 [LF (kI 0),LF (kI (-2)),LF (kI 0)] (.o (.g 3))),(65,.call 21 [LF (kI 12),LF (kI (-2)),LF (kI 0)] (.o (.g 3))),(66,.call 21 [LF (kI 12),LF (kI 8),LF (kI 0)] (.o (.g 3))),(0,.raw [(1000067,.dat 26 3 [.h 70,.h 71,.h 72,.h 73,.h 74,.h 75,.h 76,.h 77,.h 78] 79)] 1),(0,.raw [(1000068,.dat 3 3 [.k (.int .i64 5),.k (.int .i64 5),.k (.int .i64 6)] 80)] 1),(0,.raw [(1000069,.call ⟨45,[69,79,80],[],.o (.c (.k (.bool true))),[]⟩)] 0),(0,.raw [(1000075,.dat 62 3 [.h 41,.h 42,.h 43,.h 44,.h 23,.h 24,.h 25,.h 26,.h 37,.h 38,.h 39,.h 40] 81)] 1),(0,.raw [(1000076,.call ⟨46,[.o (.c (.k (.int .i64 17))),81],[],.o (.c (.k (.bool true))),[]⟩)] 0),(79,.call 21 [LF (kI 1),LF (kI 0),LF (kI 0)] (.o (.g 3))),(80,.call 29 [.o (.g [82,83,84]),LF (kI 5)] (.o (.g 4))),(81,.call 21 [LF (kI 1),LF (kI 8),LF (kI 0)] (.o (.g 3))),(82,.call 29 [.o (.g [89,90,91]),LF (kI 5)] (.o (.g 4))),(0,.raw [(1000083,.dat 62 3 [.h 41,.h 42,.h 43,.h 44,.h 85,.h 86,.h 87,.h 88,.h 92,.h 93,.h 94,.h 95] 96)] 1),(0,.raw [(1000084,.call ⟨46,[.o (.c (.k (.int .i64 17))),96],[],.o (.c (.k (.bool true))),[]⟩)] 0),(88,.call 21 [LF (kI 3),LF (kI 3),LF (kI 0)] (.o (.g 3))),(89,.call 29 [.o (.g [97,98,99]),LF (kI 5)] (.o (.g 4))),(0,.raw [(1000090,.dat 62 2 [.h 41,.h 42,.h 43,.h 44,.h 100,.h 101,.h 102,.h 103] 104)] 1),(0,.raw [(1000091,.call ⟨46,[.o (.c (.k (.int .i64 17))),104],[],.o (.c (.k (.bool true))),[]⟩)] 0),(0,.raw [(1000096,.dat 62 2 [.h 41,.h 42,.h 43,.h 44,.h 41,.h 42,.h 43,.h 44] 105)] 1),(0,.raw [(1000097,.call ⟨46,[.o (.c (.k (.int .i64 17))),105],[],.o (.c (.k (.bool true))),[]⟩)] 0),(100,.call 21 [LF (kI 0),LF (kI 0),LF (kI 25)] (.o (.g 3))),(101,.call 43 [.o (.g [106,107,108])] (.o (.g 4))),(0,.raw [(1000102,.dat 62 1 [.h 109,.h 110,.h 111,.h 112] 113)] 1),(0,.raw [(1000103,.call ⟨46,[.o (.c (.k (.int .i64 3))),113],[],.o (.c (.k (.bool true))),[]⟩)] 0),(105,.call 21 [LF (kI 1),LF (kI 0),LF (kI 0)] (.o (.g 3))),(106,.call 29 [.o (.g [114,115,116]),LF (kI 0)] (.o (.g 4))),(0,.raw [(1000107,.dat 62 1 [.h 117,.h 118,.h 119,.h 120] 121)] 1),(0,.raw [(1000108,.call ⟨46,[.o (.c (.k (.int .i64 3))),121],[],.o (.c (.k (.bool true))),[]⟩)] 0),(111,.call 44 [LF (kI 1),LF (kI 0)] (.o (.g 4))),(0,.raw [(1000112,.dat 62 1 [.h 122,.h 123,.h 124,.h 125] 126)] 1),(0,.raw [(1000113,.call ⟨46,[.o (.c (.k (.int .i64 3))),126],[],.o (.c (.k (.bool true))),[]⟩)] 0),(0,.raw [(1000117,.dat 62 1 [.k (.int .i64 5),.k (.int .i64 0),.k (.string ⟨#[115,105,100,101]⟩),.k (.slice none 0 0)] 127)] 1),(0,.raw [(1000118,.call ⟨46,[.o (.c (.k (.int .i64 18))),127],[],.o (.c (.k (.bool true))),[]⟩)] 0),(0,.raw [(1000126,.dat 45 2 [.k (.int .i64 1),.k (.int .i64 0),.k (.int .i64 0),.k (.int .i64 0),.h 0,.h 1,.h 2,.k (.int .i64 0),.k (.int .i64 0),.k (.int .i64 0),.k (.int .i64 0),.k (.int .i64 2),.h 0,.h 1,.h 2,.h 3,.h 4,.h 5,.k (.int .i64 0),.k (.int .i64 0),.k (.int .i64 0),.k (.int .i64 10)] 128)] 1),(129,.call 26 [128,LF (kI 10)] (.t [.c,.c,.c])),(146,.call 24 [128] (.o .c)),(147,.bin .eql 3 132 (kI 9)),(0,.fb 133 true),(0,.raw [(1000151,.call ⟨47,[128,.o (.c (.k (.int .i64 0))),.o (.c (.k (.int .i64 0))),.o (.c (.k (.int .i64 0)))],[],.o (.c (.k (.bool true))),[]⟩)] 0),(0,.raw [(1000155,.call ⟨47,[128,.o (.c (.k (.int .i64 5))),.o (.c (.k (.int .i64 0))),.o (.c (.k (.int .i64 5)))],[],.o (.c (.k (.bool true))),[]⟩)] 0),(0,.raw [(1000159,.call ⟨47,[128,.o (.c (.k (.int .i64 6))),.o (.c (.k (.int .i64 1))),.o (.c (.k (.int .i64 1)))],[],.o (.c (.k (.bool true))),[]⟩)] 0),(0,.raw [(1000163,.call ⟨47,[128,.o (.c (.k (.int .i64 9))),.o (.c (.k (.int .i64 1))),.o (.c (.k (.int .i64 4)))],[],.o (.c (.k (.bool true))),[]⟩)] 0),(167,.un .not 131)] (.z (.ret false (134) []))
theorem zok {w0:World} (hL:LibP w0):Fun (KN w0) Tryz.prog 9 [] (.o (.c (pB true))):=by
 refine tfn w0 9 ⟨[],[],[],0,0⟩ ⟨0,[],[],[]⟩ zjZ (by kernel_rfl) ?_
 obtain ⟨v1,e1⟩:=LX (((0:Int),(0:Int),(5:Int)))
 refine cx (.o (.g [sI v1.1,sI v1.2.1,sI v1.2.2])) (zY (0:Int) (0:Int) (5:Int) v1 e1) rfl ?_
 obtain ⟨v2,e2⟩:=LX (((4:Int),(0:Int),(5:Int)))
 refine cx (.o (.g [sI v2.1,sI v2.2.1,sI v2.2.2])) (zY (4:Int) (0:Int) (5:Int) v2 e2) rfl ?_
 obtain ⟨v3,e3⟩:=LX (zja v1)
 refine cx (.o (.g [sI v3.1,sI v3.2.1,sS v3.2.2.1,.ls 3 cE kE v3.2.2.2])) (zjo v1 v3 e3) rfl ?_
 obtain ⟨v4,e4⟩:=LX (lineX v2 (10:Int))
 refine cx (.o (.g [sI v4.1,sI v4.2.1,sS v4.2.2.1,.ls 3 cE kE v4.2.2.2])) (qy v2 (10:Int) v4 e4) rfl ?_
 obtain ⟨v5,e5⟩:=LX (lineX v2 (20:Int))
 refine cx (.o (.g [sI v5.1,sI v5.2.1,sS v5.2.2.1,.ls 3 cE kE v5.2.2.2])) (qy v2 (20:Int) v5 e5) rfl ?_
 obtain ⟨v6,e6⟩:=LX (([v3,v4,v5]:List Stm))
 refine rx [.ls 4 cSt kSt v6] [] [] (fun t u w=>⟨e_dat (c:=cSt) (l:=([v3,v4,v5]:List Stm)) (ps:=(pI v3.1::pI v3.2.1::pS v3.2.2.1::pLs cE v3.2.2.2::pI v4.1::pI v4.2.1::pS v4.2.2.1::pLs cE v4.2.2.2::pI v5.1::pI v5.2.1::pS v5.2.2.1::pLs cE v5.2.2.2::[])) (qs:=(pI v3.1::pI v3.2.1::pS v3.2.2.1::pLs cE v3.2.2.2::pI v4.1::pI v4.2.1::pS v4.2.2.1::pLs cE v4.2.2.2::pI v5.1::pI v5.2.1::pS v5.2.2.1::pLs cE v5.2.2.2::[])) (by rw [e6];rfl) rfl rfl rfl (pimps (fun _ _ _ h=>h) <| pimps (fun _ _ _ h=>h) <| pimps (fun _ _ _ h=>h) <| pimps (fun _ _ _ h=>h) <| pimps (fun _ _ _ h=>h) <| pimps (fun _ _ _ h=>h) <| pimps (fun _ _ _ h=>h) <| pimps (fun _ _ _ h=>h) <| pimps (fun _ _ _ h=>h) <| pimps (fun _ _ _ h=>h) <| pimps (fun _ _ _ h=>h) <| pimps (fun _ _ _ h=>h) <| zf) rfl,trivial⟩) ?_
 obtain ⟨v7,e7⟩:=LX (mainX v6)
 refine cx (.o (.c (.ls 3 cSb kSb v7))) (zgz v6 v7 e7) rfl ?_
 obtain ⟨v8,e8⟩:=LX (((10:Int),(0:Int),(0:Int)))
 refine cx (.o (.g [sI v8.1,sI v8.2.1,sI v8.2.2])) (zY (10:Int) (0:Int) (0:Int) v8 e8) rfl ?_
 obtain ⟨v9,e9⟩:=LX (lineX v8 (5:Int))
 refine cx (.o (.g [sI v9.1,sI v9.2.1,sS v9.2.2.1,.ls 3 cE kE v9.2.2.2])) (qy v8 (5:Int) v9 e9) rfl ?_
 obtain ⟨v10,e10⟩:=LX (((10:Int),(8:Int),(0:Int)))
 refine cx (.o (.g [sI v10.1,sI v10.2.1,sI v10.2.2])) (zY (10:Int) (8:Int) (0:Int) v10 e10) rfl ?_
 obtain ⟨v11,e11⟩:=LX (lineX v10 (6:Int))
 refine cx (.o (.g [sI v11.1,sI v11.2.1,sS v11.2.2.1,.ls 3 cE kE v11.2.2.2])) (qy v10 (6:Int) v11 e11) rfl ?_
 obtain ⟨v12,e12⟩:=LX (((4:Int),(0:Int),(0:Int)))
 refine cx (.o (.g [sI v12.1,sI v12.2.1,sI v12.2.2])) (zY (4:Int) (0:Int) (0:Int) v12 e12) rfl ?_
 obtain ⟨v13,e13⟩:=LX (lineX v12 (5:Int))
 refine cx (.o (.g [sI v13.1,sI v13.2.1,sS v13.2.2.1,.ls 3 cE kE v13.2.2.2])) (qy v12 (5:Int) v13 e13) rfl ?_
 obtain ⟨v14,e14⟩:=LX (sideX (1:Int) (2:Int))
 refine cx (.o (.g [sI v14.1,sI v14.2.1,sS v14.2.2.1,.ls 3 cE kE v14.2.2.2])) (zgI (1:Int) (2:Int) v14 e14) rfl ?_
 obtain ⟨v15,e15⟩:=LX (sideX (2:Int) (2:Int))
 refine cx (.o (.g [sI v15.1,sI v15.2.1,sS v15.2.2.1,.ls 3 cE kE v15.2.2.2])) (zgI (2:Int) (2:Int) v15 e15) rfl ?_
 obtain ⟨v16,e16⟩:=LX (sideX (0:Int) (0:Int))
 refine cx (.o (.g [sI v16.1,sI v16.2.1,sS v16.2.2.1,.ls 3 cE kE v16.2.2.2])) (zgI (0:Int) (0:Int) v16 e16) rfl ?_
 obtain ⟨v17,e17⟩:=LX (([v1,v2]:List Vec))
 refine rx [.ls 3 cV kV v17] [] [] (fun t u w=>⟨e_dat (c:=cV) (l:=([v1,v2]:List Vec)) (ps:=(pI v1.1::pI v1.2.1::pI v1.2.2::pI v2.1::pI v2.2.1::pI v2.2.2::[])) (qs:=(pI v1.1::pI v1.2.1::pI v1.2.2::pI v2.1::pI v2.2.1::pI v2.2.2::[])) (by rw [e17];rfl) rfl rfl rfl (pimps (fun _ _ _ h=>h) <| pimps (fun _ _ _ h=>h) <| pimps (fun _ _ _ h=>h) <| pimps (fun _ _ _ h=>h) <| pimps (fun _ _ _ h=>h) <| pimps (fun _ _ _ h=>h) <| zf) rfl,trivial⟩) ?_
 obtain ⟨v18,e18⟩:=LX (([(0:Int),(10:Int)]:List Int))
 refine rx [.ls 1 cI kIc v18] [] [] (fun t u w=>⟨e_dat (c:=cI) (l:=([(0:Int),(10:Int)]:List Int)) (ps:=(pV (.int .i64 0)::pV (.int .i64 10)::[])) (qs:=(pI (0:Int)::pI (10:Int)::[])) (by rw [e18];rfl) rfl rfl rfl (pimps (fun _ _ _ h=>h) <| pimps (fun _ _ _ h=>h) <| zf) rfl,trivial⟩) ?_
 have s19:zG v7=0:=by (subst e7;subst e6;subst e5;subst e4;subst e3;subst e2;subst e1;decide +kernel)
 have s20:SbW v7:=by (subst e7;subst e6;subst e5;subst e4;subst e3;subst e2;subst e1;unfold SbW;decide +kernel)
 have s21:runP v7 [] (0,0,0)=(expM (0,0,0) v17 v18,0):=by (subst e18;subst e17;subst e7;subst e6;subst e5;subst e4;subst e3;subst e2;subst e1;kernel_rfl)
 have s22:v17.length=v18.length:=by (subst e18;subst e17;subst e2;subst e1;decide +kernel)
 have s23:(expM (0,0,0) v17 v18).length=v17.length:=by (subst e18;subst e17;subst e2;subst e1;decide +kernel)
 have s24:v17.length≤1000:=by (subst e17;subst e2;subst e1;decide +kernel)
 refine rx [] [] [] (fun t u w=>⟨zA (zmC hL v7 v17 v18   s19 s20 s21 s22 s23 s24),trivial⟩) ?_
 obtain ⟨v25,e25⟩:=LX (([v14,v9,v11,v16]:List Stm))
 refine rx [.ls 4 cSt kSt v25] [] [] (fun t u w=>⟨e_dat (c:=cSt) (l:=([v14,v9,v11,v16]:List Stm)) (ps:=(pI v14.1::pI v14.2.1::pS v14.2.2.1::pLs cE v14.2.2.2::pI v9.1::pI v9.2.1::pS v9.2.2.1::pLs cE v9.2.2.2::pI v11.1::pI v11.2.1::pS v11.2.2.1::pLs cE v11.2.2.2::pI v16.1::pI v16.2.1::pS v16.2.2.1::pLs cE v16.2.2.2::[])) (qs:=(pI v14.1::pI v14.2.1::pS v14.2.2.1::pLs cE v14.2.2.2::pI v9.1::pI v9.2.1::pS v9.2.2.1::pLs cE v9.2.2.2::pI v11.1::pI v11.2.1::pS v11.2.2.1::pLs cE v11.2.2.2::pI v16.1::pI v16.2.1::pS v16.2.2.1::pLs cE v16.2.2.2::[])) (by rw [e25];rfl) rfl rfl rfl (pimps (fun _ _ _ h=>h) <| pimps (fun _ _ _ h=>h) <| pimps (fun _ _ _ h=>h) <| pimps (fun _ _ _ h=>h) <| pimps (fun _ _ _ h=>h) <| pimps (fun _ _ _ h=>h) <| pimps (fun _ _ _ h=>h) <| pimps (fun _ _ _ h=>h) <| pimps (fun _ _ _ h=>h) <| pimps (fun _ _ _ h=>h) <| pimps (fun _ _ _ h=>h) <| pimps (fun _ _ _ h=>h) <| pimps (fun _ _ _ h=>h) <| pimps (fun _ _ _ h=>h) <| pimps (fun _ _ _ h=>h) <| pimps (fun _ _ _ h=>h) <| zf) rfl,trivial⟩) ?_
 obtain ⟨v26,e26⟩:=LX (mainX v25)
 refine cx (.o (.c (.ls 3 cSb kSb v26))) (zgz v25 v26 e26) rfl ?_
 obtain ⟨v27,e27⟩:=LX (((0:Int),(2:Int),(0:Int)))
 refine cx (.o (.g [sI v27.1,sI v27.2.1,sI v27.2.2])) (zY (0:Int) (2:Int) (0:Int) v27 e27) rfl ?_
 obtain ⟨v28,e28⟩:=LX (((8:Int),(2:Int),(0:Int)))
 refine cx (.o (.g [sI v28.1,sI v28.2.1,sI v28.2.2])) (zY (8:Int) (2:Int) (0:Int) v28 e28) rfl ?_
 obtain ⟨v29,e29⟩:=LX (((8:Int),(8:Int),(0:Int)))
 refine cx (.o (.g [sI v29.1,sI v29.2.1,sI v29.2.2])) (zY (8:Int) (8:Int) (0:Int) v29 e29) rfl ?_
 obtain ⟨v30,e30⟩:=LX (([v27,v28,v29]:List Vec))
 refine rx [.ls 3 cV kV v30] [] [] (fun t u w=>⟨e_dat (c:=cV) (l:=([v27,v28,v29]:List Vec)) (ps:=(pI v27.1::pI v27.2.1::pI v27.2.2::pI v28.1::pI v28.2.1::pI v28.2.2::pI v29.1::pI v29.2.1::pI v29.2.2::[])) (qs:=(pI v27.1::pI v27.2.1::pI v27.2.2::pI v28.1::pI v28.2.1::pI v28.2.2::pI v29.1::pI v29.2.1::pI v29.2.2::[])) (by rw [e30];rfl) rfl rfl rfl (pimps (fun _ _ _ h=>h) <| pimps (fun _ _ _ h=>h) <| pimps (fun _ _ _ h=>h) <| pimps (fun _ _ _ h=>h) <| pimps (fun _ _ _ h=>h) <| pimps (fun _ _ _ h=>h) <| pimps (fun _ _ _ h=>h) <| pimps (fun _ _ _ h=>h) <| pimps (fun _ _ _ h=>h) <| zf) rfl,trivial⟩) ?_
 obtain ⟨v31,e31⟩:=LX (([(5:Int),(5:Int),(6:Int)]:List Int))
 refine rx [.ls 1 cI kIc v31] [] [] (fun t u w=>⟨e_dat (c:=cI) (l:=([(5:Int),(5:Int),(6:Int)]:List Int)) (ps:=(pV (.int .i64 5)::pV (.int .i64 5)::pV (.int .i64 6)::[])) (qs:=(pI (5:Int)::pI (5:Int)::pI (6:Int)::[])) (by rw [e31];rfl) rfl rfl rfl (pimps (fun _ _ _ h=>h) <| pimps (fun _ _ _ h=>h) <| pimps (fun _ _ _ h=>h) <| zf) rfl,trivial⟩) ?_
 have s32:zG v26=0:=by (subst e26;subst e25;subst e16;subst e14;subst e11;subst e10;subst e9;subst e8;decide +kernel)
 have s33:SbW v26:=by (subst e26;subst e25;subst e16;subst e14;subst e11;subst e10;subst e9;subst e8;unfold SbW;decide +kernel)
 have s34:runP v26 [] (0,0,0)=(expM (0,0,0) v30 v31,0):=by (subst e31;subst e30;subst e29;subst e28;subst e27;subst e26;subst e25;subst e16;subst e14;subst e11;subst e10;subst e9;subst e8;kernel_rfl)
 have s35:v30.length=v31.length:=by (subst e31;subst e30;subst e29;subst e28;subst e27;decide +kernel)
 have s36:(expM (0,0,0) v30 v31).length=v30.length:=by (subst e31;subst e30;subst e29;subst e28;subst e27;decide +kernel)
 have s37:v30.length≤1000:=by (subst e30;subst e29;subst e28;subst e27;decide +kernel)
 refine rx [] [] [] (fun t u w=>⟨zA (zmC hL v26 v30 v31   s32 s33 s34 s35 s36 s37),trivial⟩) ?_
 obtain ⟨v38,e38⟩:=LX (([v15,v9,v11,v16]:List Stm))
 refine rx [.ls 4 cSt kSt v38] [] [] (fun t u w=>⟨e_dat (c:=cSt) (l:=([v15,v9,v11,v16]:List Stm)) (ps:=(pI v15.1::pI v15.2.1::pS v15.2.2.1::pLs cE v15.2.2.2::pI v9.1::pI v9.2.1::pS v9.2.2.1::pLs cE v9.2.2.2::pI v11.1::pI v11.2.1::pS v11.2.2.1::pLs cE v11.2.2.2::pI v16.1::pI v16.2.1::pS v16.2.2.1::pLs cE v16.2.2.2::[])) (qs:=(pI v15.1::pI v15.2.1::pS v15.2.2.1::pLs cE v15.2.2.2::pI v9.1::pI v9.2.1::pS v9.2.2.1::pLs cE v9.2.2.2::pI v11.1::pI v11.2.1::pS v11.2.2.1::pLs cE v11.2.2.2::pI v16.1::pI v16.2.1::pS v16.2.2.1::pLs cE v16.2.2.2::[])) (by rw [e38];rfl) rfl rfl rfl (pimps (fun _ _ _ h=>h) <| pimps (fun _ _ _ h=>h) <| pimps (fun _ _ _ h=>h) <| pimps (fun _ _ _ h=>h) <| pimps (fun _ _ _ h=>h) <| pimps (fun _ _ _ h=>h) <| pimps (fun _ _ _ h=>h) <| pimps (fun _ _ _ h=>h) <| pimps (fun _ _ _ h=>h) <| pimps (fun _ _ _ h=>h) <| pimps (fun _ _ _ h=>h) <| pimps (fun _ _ _ h=>h) <| pimps (fun _ _ _ h=>h) <| pimps (fun _ _ _ h=>h) <| pimps (fun _ _ _ h=>h) <| pimps (fun _ _ _ h=>h) <| zf) rfl,trivial⟩) ?_
 obtain ⟨v39,e39⟩:=LX (mainX v38)
 refine cx (.o (.c (.ls 3 cSb kSb v39))) (zgz v38 v39 e39) rfl ?_
 obtain ⟨v40,e40⟩:=LX (((0:Int),(-2:Int),(0:Int)))
 refine cx (.o (.g [sI v40.1,sI v40.2.1,sI v40.2.2])) (zY (0:Int) (-2:Int) (0:Int) v40 e40) rfl ?_
 obtain ⟨v41,e41⟩:=LX (((12:Int),(-2:Int),(0:Int)))
 refine cx (.o (.g [sI v41.1,sI v41.2.1,sI v41.2.2])) (zY (12:Int) (-2:Int) (0:Int) v41 e41) rfl ?_
 obtain ⟨v42,e42⟩:=LX (((12:Int),(8:Int),(0:Int)))
 refine cx (.o (.g [sI v42.1,sI v42.2.1,sI v42.2.2])) (zY (12:Int) (8:Int) (0:Int) v42 e42) rfl ?_
 obtain ⟨v43,e43⟩:=LX (([v40,v41,v42]:List Vec))
 refine rx [.ls 3 cV kV v43] [] [] (fun t u w=>⟨e_dat (c:=cV) (l:=([v40,v41,v42]:List Vec)) (ps:=(pI v40.1::pI v40.2.1::pI v40.2.2::pI v41.1::pI v41.2.1::pI v41.2.2::pI v42.1::pI v42.2.1::pI v42.2.2::[])) (qs:=(pI v40.1::pI v40.2.1::pI v40.2.2::pI v41.1::pI v41.2.1::pI v41.2.2::pI v42.1::pI v42.2.1::pI v42.2.2::[])) (by rw [e43];rfl) rfl rfl rfl (pimps (fun _ _ _ h=>h) <| pimps (fun _ _ _ h=>h) <| pimps (fun _ _ _ h=>h) <| pimps (fun _ _ _ h=>h) <| pimps (fun _ _ _ h=>h) <| pimps (fun _ _ _ h=>h) <| pimps (fun _ _ _ h=>h) <| pimps (fun _ _ _ h=>h) <| pimps (fun _ _ _ h=>h) <| zf) rfl,trivial⟩) ?_
 obtain ⟨v44,e44⟩:=LX (([(5:Int),(5:Int),(6:Int)]:List Int))
 refine rx [.ls 1 cI kIc v44] [] [] (fun t u w=>⟨e_dat (c:=cI) (l:=([(5:Int),(5:Int),(6:Int)]:List Int)) (ps:=(pV (.int .i64 5)::pV (.int .i64 5)::pV (.int .i64 6)::[])) (qs:=(pI (5:Int)::pI (5:Int)::pI (6:Int)::[])) (by rw [e44];rfl) rfl rfl rfl (pimps (fun _ _ _ h=>h) <| pimps (fun _ _ _ h=>h) <| pimps (fun _ _ _ h=>h) <| zf) rfl,trivial⟩) ?_
 have s45:zG v39=0:=by (subst e39;subst e38;subst e16;subst e15;subst e11;subst e10;subst e9;subst e8;decide +kernel)
 have s46:SbW v39:=by (subst e39;subst e38;subst e16;subst e15;subst e11;subst e10;subst e9;subst e8;unfold SbW;decide +kernel)
 have s47:runP v39 [] (0,0,0)=(expM (0,0,0) v43 v44,0):=by (subst e44;subst e43;subst e42;subst e41;subst e40;subst e39;subst e38;subst e16;subst e15;subst e11;subst e10;subst e9;subst e8;kernel_rfl)
 have s48:v43.length=v44.length:=by (subst e44;subst e43;subst e42;subst e41;subst e40;decide +kernel)
 have s49:(expM (0,0,0) v43 v44).length=v43.length:=by (subst e44;subst e43;subst e42;subst e41;subst e40;decide +kernel)
 have s50:v43.length≤1000:=by (subst e43;subst e42;subst e41;subst e40;decide +kernel)
 refine rx [] [] [] (fun t u w=>⟨zA (zmC hL v39 v43 v44   s45 s46 s47 s48 s49 s50),trivial⟩) ?_
 obtain ⟨v51,e51⟩:=LX (([v14,v9,v13]:List Stm))
 refine rx [.ls 4 cSt kSt v51] [] [] (fun t u w=>⟨e_dat (c:=cSt) (l:=([v14,v9,v13]:List Stm)) (ps:=(pI v14.1::pI v14.2.1::pS v14.2.2.1::pLs cE v14.2.2.2::pI v9.1::pI v9.2.1::pS v9.2.2.1::pLs cE v9.2.2.2::pI v13.1::pI v13.2.1::pS v13.2.2.1::pLs cE v13.2.2.2::[])) (qs:=(pI v14.1::pI v14.2.1::pS v14.2.2.1::pLs cE v14.2.2.2::pI v9.1::pI v9.2.1::pS v9.2.2.1::pLs cE v9.2.2.2::pI v13.1::pI v13.2.1::pS v13.2.2.1::pLs cE v13.2.2.2::[])) (by rw [e51];rfl) rfl rfl rfl (pimps (fun _ _ _ h=>h) <| pimps (fun _ _ _ h=>h) <| pimps (fun _ _ _ h=>h) <| pimps (fun _ _ _ h=>h) <| pimps (fun _ _ _ h=>h) <| pimps (fun _ _ _ h=>h) <| pimps (fun _ _ _ h=>h) <| pimps (fun _ _ _ h=>h) <| pimps (fun _ _ _ h=>h) <| pimps (fun _ _ _ h=>h) <| pimps (fun _ _ _ h=>h) <| pimps (fun _ _ _ h=>h) <| zf) rfl,trivial⟩) ?_
 have s52:zG (mainX v51)=0:=by (subst e51;subst e14;subst e13;subst e12;subst e9;subst e8;decide +kernel)
 have s53:SbW (mainX v51):=by (subst e51;subst e14;subst e13;subst e12;subst e9;subst e8;unfold SbW;decide +kernel)
 have s54:runP (mainX v51) [] (0,0,0)=([],(17:Int)):=by (subst e51;subst e14;subst e13;subst e12;subst e9;subst e8;kernel_rfl)
 refine rx [] [] [] (fun t u w=>⟨zA (zaK hL (17:Int) v51   s52 s53 s54),trivial⟩) ?_
 obtain ⟨v55,e55⟩:=LX (((1:Int),(0:Int),(0:Int)))
 refine cx (.o (.g [sI v55.1,sI v55.2.1,sI v55.2.2])) (zY (1:Int) (0:Int) (0:Int) v55 e55) rfl ?_
 obtain ⟨v56,e56⟩:=LX (lineX v55 (5:Int))
 refine cx (.o (.g [sI v56.1,sI v56.2.1,sS v56.2.2.1,.ls 3 cE kE v56.2.2.2])) (qy v55 (5:Int) v56 e56) rfl ?_
 obtain ⟨v57,e57⟩:=LX (((1:Int),(8:Int),(0:Int)))
 refine cx (.o (.g [sI v57.1,sI v57.2.1,sI v57.2.2])) (zY (1:Int) (8:Int) (0:Int) v57 e57) rfl ?_
 obtain ⟨v58,e58⟩:=LX (lineX v57 (5:Int))
 refine cx (.o (.g [sI v58.1,sI v58.2.1,sS v58.2.2.1,.ls 3 cE kE v58.2.2.2])) (qy v57 (5:Int) v58 e58) rfl ?_
 obtain ⟨v59,e59⟩:=LX (([v14,v56,v58]:List Stm))
 refine rx [.ls 4 cSt kSt v59] [] [] (fun t u w=>⟨e_dat (c:=cSt) (l:=([v14,v56,v58]:List Stm)) (ps:=(pI v14.1::pI v14.2.1::pS v14.2.2.1::pLs cE v14.2.2.2::pI v56.1::pI v56.2.1::pS v56.2.2.1::pLs cE v56.2.2.2::pI v58.1::pI v58.2.1::pS v58.2.2.1::pLs cE v58.2.2.2::[])) (qs:=(pI v14.1::pI v14.2.1::pS v14.2.2.1::pLs cE v14.2.2.2::pI v56.1::pI v56.2.1::pS v56.2.2.1::pLs cE v56.2.2.2::pI v58.1::pI v58.2.1::pS v58.2.2.1::pLs cE v58.2.2.2::[])) (by rw [e59];rfl) rfl rfl rfl (pimps (fun _ _ _ h=>h) <| pimps (fun _ _ _ h=>h) <| pimps (fun _ _ _ h=>h) <| pimps (fun _ _ _ h=>h) <| pimps (fun _ _ _ h=>h) <| pimps (fun _ _ _ h=>h) <| pimps (fun _ _ _ h=>h) <| pimps (fun _ _ _ h=>h) <| pimps (fun _ _ _ h=>h) <| pimps (fun _ _ _ h=>h) <| pimps (fun _ _ _ h=>h) <| pimps (fun _ _ _ h=>h) <| zf) rfl,trivial⟩) ?_
 have s60:zG (mainX v59)=0:=by (subst e59;subst e58;subst e57;subst e56;subst e55;subst e14;decide +kernel)
 have s61:SbW (mainX v59):=by (subst e59;subst e58;subst e57;subst e56;subst e55;subst e14;unfold SbW;decide +kernel)
 have s62:runP (mainX v59) [] (0,0,0)=([],(17:Int)):=by (subst e59;subst e58;subst e57;subst e56;subst e55;subst e14;kernel_rfl)
 refine rx [] [] [] (fun t u w=>⟨zA (zaK hL (17:Int) v59   s60 s61 s62),trivial⟩) ?_
 obtain ⟨v63,e63⟩:=LX (((3:Int),(3:Int),(0:Int)))
 refine cx (.o (.g [sI v63.1,sI v63.2.1,sI v63.2.2])) (zY (3:Int) (3:Int) (0:Int) v63 e63) rfl ?_
 obtain ⟨v64,e64⟩:=LX (lineX v63 (5:Int))
 refine cx (.o (.g [sI v64.1,sI v64.2.1,sS v64.2.2.1,.ls 3 cE kE v64.2.2.2])) (qy v63 (5:Int) v64 e64) rfl ?_
 obtain ⟨v65,e65⟩:=LX (([v14,v64]:List Stm))
 refine rx [.ls 4 cSt kSt v65] [] [] (fun t u w=>⟨e_dat (c:=cSt) (l:=([v14,v64]:List Stm)) (ps:=(pI v14.1::pI v14.2.1::pS v14.2.2.1::pLs cE v14.2.2.2::pI v64.1::pI v64.2.1::pS v64.2.2.1::pLs cE v64.2.2.2::[])) (qs:=(pI v14.1::pI v14.2.1::pS v14.2.2.1::pLs cE v14.2.2.2::pI v64.1::pI v64.2.1::pS v64.2.2.1::pLs cE v64.2.2.2::[])) (by rw [e65];rfl) rfl rfl rfl (pimps (fun _ _ _ h=>h) <| pimps (fun _ _ _ h=>h) <| pimps (fun _ _ _ h=>h) <| pimps (fun _ _ _ h=>h) <| pimps (fun _ _ _ h=>h) <| pimps (fun _ _ _ h=>h) <| pimps (fun _ _ _ h=>h) <| pimps (fun _ _ _ h=>h) <| zf) rfl,trivial⟩) ?_
 have s66:zG (mainX v65)=0:=by (subst e65;subst e64;subst e63;subst e14;decide +kernel)
 have s67:SbW (mainX v65):=by (subst e65;subst e64;subst e63;subst e14;unfold SbW;decide +kernel)
 have s68:runP (mainX v65) [] (0,0,0)=([],(17:Int)):=by (subst e65;subst e64;subst e63;subst e14;kernel_rfl)
 refine rx [] [] [] (fun t u w=>⟨zA (zaK hL (17:Int) v65   s66 s67 s68),trivial⟩) ?_
 obtain ⟨v69,e69⟩:=LX (([v14,v14]:List Stm))
 refine rx [.ls 4 cSt kSt v69] [] [] (fun t u w=>⟨e_dat (c:=cSt) (l:=([v14,v14]:List Stm)) (ps:=(pI v14.1::pI v14.2.1::pS v14.2.2.1::pLs cE v14.2.2.2::pI v14.1::pI v14.2.1::pS v14.2.2.1::pLs cE v14.2.2.2::[])) (qs:=(pI v14.1::pI v14.2.1::pS v14.2.2.1::pLs cE v14.2.2.2::pI v14.1::pI v14.2.1::pS v14.2.2.1::pLs cE v14.2.2.2::[])) (by rw [e69];rfl) rfl rfl rfl (pimps (fun _ _ _ h=>h) <| pimps (fun _ _ _ h=>h) <| pimps (fun _ _ _ h=>h) <| pimps (fun _ _ _ h=>h) <| pimps (fun _ _ _ h=>h) <| pimps (fun _ _ _ h=>h) <| pimps (fun _ _ _ h=>h) <| pimps (fun _ _ _ h=>h) <| zf) rfl,trivial⟩) ?_
 have s70:zG (mainX v69)=0:=by (subst e69;subst e14;decide +kernel)
 have s71:SbW (mainX v69):=by (subst e69;subst e14;unfold SbW;decide +kernel)
 have s72:runP (mainX v69) [] (0,0,0)=([],(17:Int)):=by (subst e69;subst e14;kernel_rfl)
 refine rx [] [] [] (fun t u w=>⟨zA (zaK hL (17:Int) v69   s70 s71 s72),trivial⟩) ?_
 obtain ⟨v73,e73⟩:=LX (((0:Int),(0:Int),(25:Int)))
 refine cx (.o (.g [sI v73.1,sI v73.2.1,sI v73.2.2])) (zY (0:Int) (0:Int) (25:Int) v73 e73) rfl ?_
 obtain ⟨v74,e74⟩:=LX (zja v73)
 refine cx (.o (.g [sI v74.1,sI v74.2.1,sS v74.2.2.1,.ls 3 cE kE v74.2.2.2])) (zjo v73 v74 e74) rfl ?_
 obtain ⟨v75,e75⟩:=LX (([v74]:List Stm))
 refine rx [.ls 4 cSt kSt v75] [] [] (fun t u w=>⟨e_dat (c:=cSt) (l:=([v74]:List Stm)) (ps:=(pI v74.1::pI v74.2.1::pS v74.2.2.1::pLs cE v74.2.2.2::[])) (qs:=(pI v74.1::pI v74.2.1::pS v74.2.2.1::pLs cE v74.2.2.2::[])) (by rw [e75];rfl) rfl rfl rfl (pimps (fun _ _ _ h=>h) <| pimps (fun _ _ _ h=>h) <| pimps (fun _ _ _ h=>h) <| pimps (fun _ _ _ h=>h) <| zf) rfl,trivial⟩) ?_
 have s76:zG (mainX v75)=0:=by (subst e75;subst e74;subst e73;decide +kernel)
 have s77:SbW (mainX v75):=by (subst e75;subst e74;subst e73;unfold SbW;decide +kernel)
 have s78:runP (mainX v75) [] (0,0,0)=([],(3:Int)):=by (subst e75;subst e74;subst e73;kernel_rfl)
 refine rx [] [] [] (fun t u w=>⟨zA (zaK hL (3:Int) v75   s76 s77 s78),trivial⟩) ?_
 obtain ⟨v79,e79⟩:=LX (((1:Int),(0:Int),(0:Int)))
 refine cx (.o (.g [sI v79.1,sI v79.2.1,sI v79.2.2])) (zY (1:Int) (0:Int) (0:Int) v79 e79) rfl ?_
 obtain ⟨v80,e80⟩:=LX (lineX v79 (0:Int))
 refine cx (.o (.g [sI v80.1,sI v80.2.1,sS v80.2.2.1,.ls 3 cE kE v80.2.2.2])) (qy v79 (0:Int) v80 e80) rfl ?_
 obtain ⟨v81,e81⟩:=LX (([v80]:List Stm))
 refine rx [.ls 4 cSt kSt v81] [] [] (fun t u w=>⟨e_dat (c:=cSt) (l:=([v80]:List Stm)) (ps:=(pI v80.1::pI v80.2.1::pS v80.2.2.1::pLs cE v80.2.2.2::[])) (qs:=(pI v80.1::pI v80.2.1::pS v80.2.2.1::pLs cE v80.2.2.2::[])) (by rw [e81];rfl) rfl rfl rfl (pimps (fun _ _ _ h=>h) <| pimps (fun _ _ _ h=>h) <| pimps (fun _ _ _ h=>h) <| pimps (fun _ _ _ h=>h) <| zf) rfl,trivial⟩) ?_
 have s82:zG (mainX v81)=0:=by (subst e81;subst e80;subst e79;decide +kernel)
 have s83:SbW (mainX v81):=by (subst e81;subst e80;subst e79;unfold SbW;decide +kernel)
 have s84:runP (mainX v81) [] (0,0,0)=([],(3:Int)):=by (subst e81;subst e80;subst e79;kernel_rfl)
 refine rx [] [] [] (fun t u w=>⟨zA (zaK hL (3:Int) v81   s82 s83 s84),trivial⟩) ?_
 obtain ⟨v85,e85⟩:=LX (sideX (1:Int) (0:Int))
 refine cx (.o (.g [sI v85.1,sI v85.2.1,sS v85.2.2.1,.ls 3 cE kE v85.2.2.2])) (zgI (1:Int) (0:Int) v85 e85) rfl ?_
 obtain ⟨v86,e86⟩:=LX (([v85]:List Stm))
 refine rx [.ls 4 cSt kSt v86] [] [] (fun t u w=>⟨e_dat (c:=cSt) (l:=([v85]:List Stm)) (ps:=(pI v85.1::pI v85.2.1::pS v85.2.2.1::pLs cE v85.2.2.2::[])) (qs:=(pI v85.1::pI v85.2.1::pS v85.2.2.1::pLs cE v85.2.2.2::[])) (by rw [e86];rfl) rfl rfl rfl (pimps (fun _ _ _ h=>h) <| pimps (fun _ _ _ h=>h) <| pimps (fun _ _ _ h=>h) <| pimps (fun _ _ _ h=>h) <| zf) rfl,trivial⟩) ?_
 have s87:zG (mainX v86)=0:=by (subst e86;subst e85;decide +kernel)
 have s88:SbW (mainX v86):=by (subst e86;subst e85;unfold SbW;decide +kernel)
 have s89:runP (mainX v86) [] (0,0,0)=([],(3:Int)):=by (subst e86;subst e85;kernel_rfl)
 refine rx [] [] [] (fun t u w=>⟨zA (zaK hL (3:Int) v86   s87 s88 s89),trivial⟩) ?_
 obtain ⟨v90,e90⟩:=LX (([((5:Int),(0:Int),[115,105,100,101],[])]:List Stm))
 refine rx [.ls 4 cSt kSt v90] [] [] (fun t u w=>⟨e_dat (c:=cSt) (l:=([((5:Int),(0:Int),[115,105,100,101],[])]:List Stm)) (ps:=(pV (.int .i64 5)::pV (.int .i64 0)::pV (.string ⟨#[115,105,100,101]⟩)::pV (.slice none 0 0)::[])) (qs:=(pI ((5:Int),(0:Int),[115,105,100,101],[]).1::pI ((5:Int),(0:Int),[115,105,100,101],[]).2.1::pS ((5:Int),(0:Int),[115,105,100,101],[]).2.2.1::pLs cE (((5:Int),(0:Int),[115,105,100,101],[]).2.2.2)::[])) (by rw [e90];rfl) rfl rfl rfl (pimps (fun _ _ _ h=>h) <| pimps (fun _ _ _ h=>h) <| pimps (fun _ _ _ h=>h) <| pimps (nil_X) <| zf) rfl,trivial⟩) ?_
 have s91:zG (mainX v90)=0:=by (subst e90;decide +kernel)
 have s92:SbW (mainX v90):=by (subst e90;unfold SbW;decide +kernel)
 have s93:runP (mainX v90) [] (0,0,0)=([],(18:Int)):=by (subst e90;kernel_rfl)
 refine rx [] [] [] (fun t u w=>⟨zA (zaK hL (18:Int) v90   s91 s92 s93),trivial⟩) ?_
 obtain ⟨v94,e94⟩:=LX (([((1:Int),((0:Int),(0:Int),(0:Int)),v1,((0:Int),(0:Int),(0:Int)),(0:Int)),((2:Int),v1,v2,((0:Int),(0:Int),(0:Int)),(10:Int))]:List Mov))
 refine rx [.ls 11 cM kM v94] [] [] (fun t u w=>⟨e_dat (c:=cM) (l:=([((1:Int),((0:Int),(0:Int),(0:Int)),v1,((0:Int),(0:Int),(0:Int)),(0:Int)),((2:Int),v1,v2,((0:Int),(0:Int),(0:Int)),(10:Int))]:List Mov)) (ps:=(pV (.int .i64 1)::pV (.int .i64 0)::pV (.int .i64 0)::pV (.int .i64 0)::pI v1.1::pI v1.2.1::pI v1.2.2::pV (.int .i64 0)::pV (.int .i64 0)::pV (.int .i64 0)::pV (.int .i64 0)::pV (.int .i64 2)::pI v1.1::pI v1.2.1::pI v1.2.2::pI v2.1::pI v2.2.1::pI v2.2.2::pV (.int .i64 0)::pV (.int .i64 0)::pV (.int .i64 0)::pV (.int .i64 10)::[])) (qs:=(pI ((1:Int),((0:Int),(0:Int),(0:Int)),v1,((0:Int),(0:Int),(0:Int)),(0:Int)).1::pI ((1:Int),((0:Int),(0:Int),(0:Int)),v1,((0:Int),(0:Int),(0:Int)),(0:Int)).2.1.1::pI ((1:Int),((0:Int),(0:Int),(0:Int)),v1,((0:Int),(0:Int),(0:Int)),(0:Int)).2.1.2.1::pI ((1:Int),((0:Int),(0:Int),(0:Int)),v1,((0:Int),(0:Int),(0:Int)),(0:Int)).2.1.2.2::pI ((1:Int),((0:Int),(0:Int),(0:Int)),v1,((0:Int),(0:Int),(0:Int)),(0:Int)).2.2.1.1::pI ((1:Int),((0:Int),(0:Int),(0:Int)),v1,((0:Int),(0:Int),(0:Int)),(0:Int)).2.2.1.2.1::pI ((1:Int),((0:Int),(0:Int),(0:Int)),v1,((0:Int),(0:Int),(0:Int)),(0:Int)).2.2.1.2.2::pI ((1:Int),((0:Int),(0:Int),(0:Int)),v1,((0:Int),(0:Int),(0:Int)),(0:Int)).2.2.2.1.1::pI ((1:Int),((0:Int),(0:Int),(0:Int)),v1,((0:Int),(0:Int),(0:Int)),(0:Int)).2.2.2.1.2.1::pI ((1:Int),((0:Int),(0:Int),(0:Int)),v1,((0:Int),(0:Int),(0:Int)),(0:Int)).2.2.2.1.2.2::pI ((1:Int),((0:Int),(0:Int),(0:Int)),v1,((0:Int),(0:Int),(0:Int)),(0:Int)).2.2.2.2::pI ((2:Int),v1,v2,((0:Int),(0:Int),(0:Int)),(10:Int)).1::pI ((2:Int),v1,v2,((0:Int),(0:Int),(0:Int)),(10:Int)).2.1.1::pI ((2:Int),v1,v2,((0:Int),(0:Int),(0:Int)),(10:Int)).2.1.2.1::pI ((2:Int),v1,v2,((0:Int),(0:Int),(0:Int)),(10:Int)).2.1.2.2::pI ((2:Int),v1,v2,((0:Int),(0:Int),(0:Int)),(10:Int)).2.2.1.1::pI ((2:Int),v1,v2,((0:Int),(0:Int),(0:Int)),(10:Int)).2.2.1.2.1::pI ((2:Int),v1,v2,((0:Int),(0:Int),(0:Int)),(10:Int)).2.2.1.2.2::pI ((2:Int),v1,v2,((0:Int),(0:Int),(0:Int)),(10:Int)).2.2.2.1.1::pI ((2:Int),v1,v2,((0:Int),(0:Int),(0:Int)),(10:Int)).2.2.2.1.2.1::pI ((2:Int),v1,v2,((0:Int),(0:Int),(0:Int)),(10:Int)).2.2.2.1.2.2::pI ((2:Int),v1,v2,((0:Int),(0:Int),(0:Int)),(10:Int)).2.2.2.2::[])) (by rw [e94];rfl) rfl rfl rfl (pimps (fun _ _ _ h=>h) <| pimps (fun _ _ _ h=>h) <| pimps (fun _ _ _ h=>h) <| pimps (fun _ _ _ h=>h) <| pimps (fun _ _ _ h=>h) <| pimps (fun _ _ _ h=>h) <| pimps (fun _ _ _ h=>h) <| pimps (fun _ _ _ h=>h) <| pimps (fun _ _ _ h=>h) <| pimps (fun _ _ _ h=>h) <| pimps (fun _ _ _ h=>h) <| pimps (fun _ _ _ h=>h) <| pimps (fun _ _ _ h=>h) <| pimps (fun _ _ _ h=>h) <| pimps (fun _ _ _ h=>h) <| pimps (fun _ _ _ h=>h) <| pimps (fun _ _ _ h=>h) <| pimps (fun _ _ _ h=>h) <| pimps (fun _ _ _ h=>h) <| pimps (fun _ _ _ h=>h) <| pimps (fun _ _ _ h=>h) <| pimps (fun _ _ _ h=>h) <| zf) rfl,trivial⟩) ?_
 obtain ⟨v95,e95⟩:=LX ((findP v94 (10:Int)).1)
 obtain ⟨v96,e96⟩:=LX ((findP v94 (10:Int)).2.1)
 obtain ⟨v97,e97⟩:=LX ((findP v94 (10:Int)).2.2)
 have s98:v94.length<9223372036854775808:=by (subst e94;subst e2;subst e1;decide +kernel)
 have s99:∀x∈v94,goodM x:=by (subst e94;subst e2;subst e1;unfold goodM;decide +kernel)
 have s100:(10:Int)<9223372036854775808:=by (decide +kernel)
 refine cx (.t [.c (sI v95),.c (sI v96),.c (sB v97)]) (zmA v94 (10:Int) v95 v96 v97 e95 e96 e97 s98 s99 s100) rfl ?_
 obtain ⟨v101,e101⟩:=LX (zjg v94)
 have s102:v94.length<9223372036854775808:=by (subst e94;subst e2;subst e1;decide +kernel)
 have s103:∀x∈v94,goodM x:=by (subst e94;subst e2;subst e1;unfold goodM;decide +kernel)
 refine cx (.o (.c (sI v101))) (zoi v94 v101 e101 s102 s103) rfl ?_
 intro v104 e104
 have s105:v104=true:=by (subst e104;subst e101;subst e94;subst e2;subst e1;decide +kernel)
 refine ai s105 ?_
 have s106:v94.length<9223372036854775808:=by (subst e94;subst e2;subst e1;decide +kernel)
 have s107:∀x∈v94,goodM x:=by (subst e94;subst e2;subst e1;unfold goodM;decide +kernel)
 have s108:(0:Int)<9223372036854775808:=by (decide +kernel)
 have s109:findP v94 (0:Int)=((0:Int),(0:Int),true):=by (subst e94;subst e2;subst e1;decide +kernel)
 refine rx [] [] [] (fun t u w=>⟨zA (zff v94 (0:Int) (0:Int) (0:Int)   s106 s107 s108 s109),trivial⟩) ?_
 have s110:v94.length<9223372036854775808:=by (subst e94;subst e2;subst e1;decide +kernel)
 have s111:∀x∈v94,goodM x:=by (subst e94;subst e2;subst e1;unfold goodM;decide +kernel)
 have s112:(5:Int)<9223372036854775808:=by (decide +kernel)
 have s113:findP v94 (5:Int)=((0:Int),(5:Int),true):=by (subst e94;subst e2;subst e1;decide +kernel)
 refine rx [] [] [] (fun t u w=>⟨zA (zff v94 (5:Int) (0:Int) (5:Int)   s110 s111 s112 s113),trivial⟩) ?_
 have s114:v94.length<9223372036854775808:=by (subst e94;subst e2;subst e1;decide +kernel)
 have s115:∀x∈v94,goodM x:=by (subst e94;subst e2;subst e1;unfold goodM;decide +kernel)
 have s116:(6:Int)<9223372036854775808:=by (decide +kernel)
 have s117:findP v94 (6:Int)=((1:Int),(1:Int),true):=by (subst e94;subst e2;subst e1;decide +kernel)
 refine rx [] [] [] (fun t u w=>⟨zA (zff v94 (6:Int) (1:Int) (1:Int)   s114 s115 s116 s117),trivial⟩) ?_
 have s118:v94.length<9223372036854775808:=by (subst e94;subst e2;subst e1;decide +kernel)
 have s119:∀x∈v94,goodM x:=by (subst e94;subst e2;subst e1;unfold goodM;decide +kernel)
 have s120:(9:Int)<9223372036854775808:=by (decide +kernel)
 have s121:findP v94 (9:Int)=((1:Int),(4:Int),true):=by (subst e94;subst e2;subst e1;decide +kernel)
 refine rx [] [] [] (fun t u w=>⟨zA (zff v94 (9:Int) (1:Int) (4:Int)   s118 s119 s120 s121),trivial⟩) ?_
 intro v122 e122
 intro hc
 refine Fun.fin (r:=.o (.c (pB v122))) (zc (hc)) (fun v W D h=>?_)
 have q:true=v122:=by (subst e122;subst e97;subst e94;subst e2;subst e1;decide +kernel)
 rw [q];exact h
end Go.Proofs.YteimplkdcjapdaaGreatDoor
namespace Go.Proofs.YteimplkdcjapdaaGreatDoor
open Go.RowKit
def sg (x:Int):Int:=if 0<x then 1 else if x<0 then -1 else 0
def hdS (x y z:Int):Vec:=if z=0∧(x=0∨y=0) then (sg x,sg y,0) else (0,0,0)
def smV (v:Vec):Prop:=(-1000≤v.1∧v.1≤1000)∧(-1000≤v.2.1∧v.2.1≤1000)∧(-1000≤v.2.2∧v.2.2≤1000)
theorem wI_eq {x:Int} (h:-1000000≤x∧x≤1000000):wI x=x:=wri (by omega)
theorem zo8 {x:Int} (h:-3000≤x∧x≤3000) (h0:x≠0):wI (x.tdiv (x.natAbs:Int))=sg x:=by
 unfold sg
 rcases Int.lt_or_gt_of_ne h0 with hx | hx
 ·rw [if_neg (by omega),if_pos hx]
  have e:(x.natAbs:Int)=-x:=by omega
  rw [e,Int.tdiv_neg,Int.tdiv_self h0];rfl
 ·rw [if_pos hx]
  have e:(x.natAbs:Int)=x:=by omega
  rw [e,Int.tdiv_self h0];rfl
theorem div_x {x:Int} (h:-3000≤x∧x≤3000):divL 0 [x,0,0]=(x.natAbs:Int):=by
 unfold divL
 rw [if_neg (by omega)]
 unfold divL
 rw [if_neg (by omega)]
 unfold divL
 rw [if_neg (by omega)]
 unfold divL
 simp
theorem div_y {y:Int} (h:-3000≤y∧y≤3000):divL 0 [0,y,0]=(y.natAbs:Int):=by
 unfold divL
 rw [if_neg (by omega)]
 unfold divL
 rw [if_neg (by omega)]
 unfold divL
 rw [if_neg (by omega)]
 unfold divL
 simp
theorem zrp {x:Int} (h:-3000≤x∧x≤3000):(primV (x,0,0)).1=(sg x,0,0):=by
 unfold primV
 dsimp only
 rw [div_x h]
 by_cases h0:x=0
 ·subst h0;rfl
 ·rw [if_neg (by omega)]
  dsimp only
  rw [zo8 h h0,Int.zero_tdiv];rfl
theorem zrq {y:Int} (h:-3000≤y∧y≤3000):(primV (0,y,0)).1=(0,sg y,0):=by
 unfold primV
 dsimp only
 rw [div_y h]
 by_cases h0:y=0
 ·subst h0;rfl
 ·rw [if_neg (by omega)]
  dsimp only
  rw [zo8 h h0,Int.zero_tdiv];rfl
theorem zbY {a b:Vec} (ha:smV a) (hb:smV b):subV b a=(b.1 - a.1,b.2.1 - a.2.1,b.2.2 - a.2.2):=by
 unfold subV
 obtain ⟨h1,h2,h3⟩:=ha
 obtain ⟨h4,h5,h6⟩:=hb
 rw [wI_eq (by omega),wI_eq (by omega),wI_eq (by omega)]
theorem zkf {a b:Vec} (ha:smV a) (hb:smV b):addV a b=(a.1+b.1,a.2.1+b.2.1,a.2.2+b.2.2):=by
 unfold addV
 obtain ⟨h1,h2,h3⟩:=ha
 obtain ⟨h4,h5,h6⟩:=hb
 rw [wI_eq (by omega),wI_eq (by omega),wI_eq (by omega)]
theorem zcf {a b:Vec} (ha:smV a) (hb:smV b):headV a b=hdS (b.1 - a.1) (b.2.1 - a.2.1) (b.2.2 - a.2.2):=by
 unfold headV
 rw [zbY ha hb]
 obtain ⟨h1,h2,h3⟩:=ha
 obtain ⟨h4,h5,h6⟩:=hb
 dsimp only
 unfold hdS
 by_cases hc:b.2.2 - a.2.2=0∧(b.1 - a.1=0∨b.2.1 - a.2.1=0)
 ·rw [if_pos hc,if_pos hc]
  obtain ⟨hz,hx | hy⟩:=hc
  ·rw [hz,hx,zrq (by omega)];rfl
  ·rw [hz,hy,zrp (by omega)];rfl
 ·rw [if_neg hc,if_neg hc]
def isDir (d:Vec):Prop:=d=(1,0,0)∨d=(0,1,0)∨d=(-1,0,0)∨d=(0,-1,0)
theorem zpG {x y z:Int} {d:Vec} (hd:isDir d) (h:hdS x y z=d):z=0∧1≤d.1*x+d.2.1*y∧d.2.1*x=d.1*y:=by
 unfold hdS at h
 split at h
 ·rename_i hc
  obtain ⟨hz,hxy⟩:=hc
  unfold sg at h
  rcases hd with rfl | rfl | rfl | rfl
  all_goals
   simp only [Prod.mk.injEq] at h
   obtain ⟨h1,h2,_⟩:=h
   refine ⟨hz,?_,?_⟩
   all_goals (dsimp only;(repeat' split at h1);(repeat' split at h2);all_goals omega)
 ·rcases hd with rfl | rfl | rfl | rfl<;>simp at h
theorem zkA {m:Int} {d:Vec} (hd:isDir d) (hm:1≤m):hdS (m*d.1) (m*d.2.1) 0=d:=by
 unfold hdS sg
 rcases hd with rfl | rfl | rfl | rfl
 all_goals
  dsimp only
  simp only [Int.mul_zero,Int.mul_one,Int.mul_neg]
  rw [if_pos (by simp)]
 ·rw [if_pos (by omega)];rfl
 ·rw [if_pos (show 0<m by omega)];rfl
 ·rw [if_neg (by omega),if_pos (by omega)];rfl
 ·rw [if_neg (show ¬ 0 < -m by omega),if_pos (show -m<0 by omega)];rfl
theorem zkm {left:Int} {w:Vec} (hd:isDir w) (hl:-4≤left∧left≤4):zn left w=(-(left*w.2.1),left*w.1,0):=by
 unfold zn
 rcases hd with rfl | rfl | rfl | rfl
 all_goals
  dsimp only
  rw [wI_eq (x:=0 - left) (by omega),wI_eq (by omega),wI_eq (by omega)]
  exact Prod.ext (by dsimp only<;>omega) (Prod.ext (by dsimp only<;>omega) rfl)
def Chain:Vec→List Vec→List Vec→Prop
 | _,[],[]=>True
 | fr,p::r,w::ws=>isDir w∧(∃m:Int,1≤m∧p=(fr.1+m*w.1,fr.2.1+m*w.2.1,fr.2.2))∧inV p=true∧Chain p r ws
 | _,_,_=>False
theorem in_sm {v:Vec} (h:inV v=true):smV v:=by
 have:=qb.1 h
 exact ⟨by omega,by omega,by omega⟩
theorem zP:∀{fr:Vec} {pts ws:List Vec},Chain fr pts ws→ws.length=pts.length
 | _,[],[],_=>rfl
 | _,_::_,_::_,h=>by rw [List.length_cons,List.length_cons,zP h.2.2.2]
 | _,[],_::_,h=>h.elim
 | _,_::_,[],h=>h.elim
theorem zfV {fr p w:Vec} (hf:inV fr=true) (hp:inV p=true) (hw:isDir w) {m:Int} (hm:1≤m) (e:p=(fr.1+m*w.1,fr.2.1+m*w.2.1,fr.2.2)):headV fr p=w:=by
 rw [zcf (in_sm hf) (in_sm hp),e]
 dsimp only
 rw [show fr.1+m*w.1 - fr.1=m*w.1 by omega,show fr.2.1+m*w.2.1 - fr.2.1=m*w.2.1 by omega,show fr.2.2 - fr.2.2=0 by omega]
 exact zkA hw hm
theorem zct:∀{fr:Vec} {pts ws:List Vec},inV fr=true→Chain fr pts ws→waysL fr pts=ws
 | _,[],[],_,_=>rfl
 | fr,p::r,w::ws,hf,⟨hw,⟨m,hm,e⟩,hp,hc⟩=>by rw [waysL,zfV hf hp hw hm e,zct hp hc]
 | _,[],_::_,_,h=>h.elim
 | _,_::_,[],_,h=>h.elim
theorem ql:∀{k:Nat} {fr:Vec} {pts ws:List Vec} {o p w:Vec},inV fr=true→Chain fr pts ws→(fr::pts)[k]?=some o→pts[k]?=some p→ws[k]?=some w→inV o=true∧isDir w∧inV p=true∧∃m:Int,1≤m∧p=(o.1+m*w.1,o.2.1+m*w.2.1,o.2.2)
 | 0,fr,p'::r,w'::ws,o,p,w,hf,⟨hw,hm,hp,hc⟩,h1,h2,h3=>by
  simp only [List.getElem?_cons_zero,Option.some.injEq] at h1 h2 h3
  subst h1;subst h2;subst h3
  exact ⟨hf,hw,hp,hm⟩
 | k+1,fr,p'::r,w'::ws,o,p,w,hf,⟨hw,hm,hp,hc⟩,h1,h2,h3=>ql (k:=k) hp hc (by simpa using h1) (by simpa using h2) (by simpa using h3)
 | _,_,[],_,_,_,_,_,_,_,h2,_=>by simp at h2
 | _,_,_::_,[],_,_,_,_,_,_,_,h3=>by simp at h3
theorem zgh {left:Int}:∀{k:Nat} {pts ws:List Vec} {p w:Vec},pts[k]?=some p→ws[k]?=some w→(qk left pts ws)[k]?=some (match ws[k+1]? with
  | some u=>if u≠w then addV (addV p (zn left w)) (zn left u) else addV p (zn left w)
  | none=>addV p (zn left w))
 | 0,q::r,x::ws,p,w,h1,h2=>by
  simp only [List.getElem?_cons_zero,Option.some.injEq] at h1 h2
  subst h1;subst h2
  cases ws<;>rfl
 | k+1,q::r,x::ws,p,w,h1,h2=>by
  rw [zco]
  simp only [List.getElem?_cons_succ] at h1 h2 ⊢
  exact zgh h1 h2
 | _,[],_,_,_,h1,_=>by simp at h1
 | _,_::_,[],_,_,_,h2=>by simp at h2
theorem zc0:∀{k:Nat} {l:List Vec} {a b:Vec},backL l=false→l[k]?=some a→l[k+1]?=some b→addV a b≠(0,0,0)
 | 0,x::y::r,a,b,h,h1,h2=>by
  simp only [List.getElem?_cons_zero,List.getElem?_cons_succ,Option.some.injEq] at h1 h2
  subst h1;subst h2
  rw [backL,Bool.or_eq_false_iff] at h
  exact of_decide_eq_false h.1
 | k+1,x::y::r,a,b,h,h1,h2=>by
  rw [backL,Bool.or_eq_false_iff] at h
  exact zc0 (k:=k) (l:=y::r) h.2 (by simpa using h1) (by simpa using h2)
 | 0,[_],_,_,_,_,h2=>by simp at h2
 | _+1,[_],_,_,_,h1,_=>by simp at h1
 | _,[],_,_,_,h1,_=>by simp at h1
theorem zlm:∀{l:List Vec},(∀(k:Nat) (a b:Vec),l[k]?=some a→l[k+1]?=some b→addV a b≠(0,0,0))→backL l=false
 | [],_=>rfl
 | [_],_=>rfl
 | x::y::r,h=>by
  rw [backL,Bool.or_eq_false_iff]
  exact ⟨decide_eq_false (h 0 x y rfl rfl),zlm fun k a b h1 h2=>h (k+1) a b (by simpa using h1) (by simpa using h2)⟩
theorem zmK:∀{k:Nat} {l ws:List Vec} {a b w:Vec},turnL l ws=false→l[k]?=some a→l[k+1]?=some b→ws[k]?=some w→headV a b=w
 | 0,x::y::r,v::ws,a,b,w,h,h1,h2,h3=>by
  simp only [List.getElem?_cons_zero,List.getElem?_cons_succ,Option.some.injEq] at h1 h2 h3
  subst h1;subst h2;subst h3
  rw [qU,Bool.or_eq_false_iff] at h
  simpa using h.1
 | k+1,x::y::r,v::ws,a,b,w,h,h1,h2,h3=>by
  rw [qU,Bool.or_eq_false_iff] at h
  exact zmK (k:=k) (l:=y::r) (ws:=ws) h.2 (by simpa using h1) (by simpa using h2) (by simpa using h3)
 | _,_,[],_,_,_,_,_,_,h3=>by simp at h3
 | 0,[_],_::_,_,_,_,_,_,h2,_=>by simp at h2
 | _+1,[_],_::_,_,_,_,_,h1,_,_=>by simp at h1
 | _,[],_::_,_,_,_,_,h1,_,_=>by simp at h1
theorem zln:∀{l ws:List Vec},(∀(k:Nat) (a b w:Vec),l[k]?=some a→l[k+1]?=some b→ws[k]?=some w→headV a b=w)→turnL l ws=false
 | x::y::r,v::ws,h=>by
  rw [qU,Bool.or_eq_false_iff]
  exact ⟨by rw [h 0 x y v rfl rfl rfl];simp,zln fun k a b w h1 h2 h3=>h (k+1) a b w (by simpa using h1) (by simpa using h2) (by simpa using h3)⟩
 | _,[],_=>zcV
 | [_],_::_,_=>rfl
 | [],_::_,_=>rfl
section
variable {fr:Vec} {pts ws:List Vec} {left:Int} {feeds:List Int}
def mvP (fr:Vec) (left:Int) (pts ws:List Vec):List Vec:=addV fr (zn left (ws.headD (0,0,0)))::qk left pts ws
theorem zlj (hf:inV fr=true) (hc:Chain fr pts ws):z8 (fr,left,pts,feeds)=mvP fr left pts ws:=by
 unfold z8 mvP
 rw [zct hf hc]
theorem zox {w:Vec} (hd:isDir w) (hl:-4≤left∧left≤4):smV (zn left w):=by
 rw [zkm hd hl]
 rcases hd with rfl | rfl | rfl | rfl<;>exact ⟨by dsimp only;omega,by dsimp only;omega,by dsimp only;omega⟩
theorem add1 {p w:Vec} (hp:inV p=true) (hd:isDir w) (hl:-4≤left∧left≤4):addV p (zn left w)=(p.1 - left*w.2.1,p.2.1+left*w.1,p.2.2):=by
 rw [zkf (in_sm hp) (zox hd hl),zkm hd hl]
 exact Prod.ext (by dsimp only;omega) (Prod.ext rfl (by dsimp only;omega))
theorem add2 {p w u:Vec} (hp:inV p=true) (hd:isDir w) (hu:isDir u) (hl:-4≤left∧left≤4):addV (addV p (zn left w)) (zn left u)=(p.1 - left*w.2.1 - left*u.2.1,p.2.1+left*w.1+left*u.1,p.2.2):=by
 have hsm:smV (addV p (zn left w)):=by
  rw [add1 hp hd hl]
  have:=qb.1 hp
  rcases hd with rfl | rfl | rfl | rfl<;>exact ⟨by dsimp only;omega,by dsimp only;omega,by dsimp only;omega⟩
 rw [zkf hsm (zox hu hl),add1 hp hd hl,zkm hu hl]
 exact Prod.ext (by dsimp only;omega) (Prod.ext (by dsimp only) (by dsimp only;omega))
theorem zdq {k:Nat} {a:Vec} (hf:inV fr=true) (hc:Chain fr pts ws) (hl:-4≤left∧left≤4) (ha:(mvP fr left pts ws)[k]?=some a) (hne:pts≠[]):∃p,(fr::pts)[k]?=some p∧inV p=true ∧
  ((k=0∧∃w,ws[0]?=some w∧isDir w∧a=(p.1 - left*w.2.1,p.2.1+left*w.1,p.2.2)) ∨
   (∃j w,k=j+1∧ws[j]?=some w∧isDir w∧((ws[k]?=none∧a=(p.1 - left*w.2.1,p.2.1+left*w.1,p.2.2))∨∃u,ws[k]?=some u∧isDir u∧((u=w∧a=(p.1 - left*w.2.1,p.2.1+left*w.1,p.2.2))∨(u≠w∧a=(p.1 - left*w.2.1 - left*u.2.1,p.2.1+left*w.1+left*u.1,p.2.2)))))):=by
 have hlen:=zP hc
 unfold mvP at ha
 cases k with
 | zero =>
  refine ⟨fr,rfl,hf,.inl ⟨rfl,?_⟩⟩
  simp only [List.getElem?_cons_zero,Option.some.injEq] at ha
  match pts,ws,hc,hne with
  | p::r,w::ws,hc,_ =>
   refine ⟨w,rfl,hc.1,?_⟩
   rw [← ha]
   exact add1 hf hc.1 hl
  | [],_,_,hne=>exact absurd rfl hne
  | _::_,[],hc,_=>exact hc.elim
 | succ j =>
  simp only [List.getElem?_cons_succ] at ha ⊢
  have hj:j<(qk left pts ws).length:=(List.getElem?_eq_some_iff.1 ha).1
  rw [zaf hlen] at hj
  have hp:=List.getElem?_eq_getElem hj
  have hw:=List.getElem?_eq_getElem (l:=ws) (i:=j) (by omega)
  have ho:=List.getElem?_eq_getElem (l:=fr::pts) (i:=j) (by simp;omega)
  obtain ⟨_,hd,hip,_⟩:=ql hf hc ho hp hw
  rw [zgh hp hw] at ha
  injection ha with ha
  refine ⟨_,hp,hip,.inr ⟨j,_,rfl,hw,hd,?_⟩⟩
  cases hu:ws[j+1]? with
  | none=>rw [hu] at ha;exact .inl ⟨rfl,ha.symm.trans (add1 hip hd hl)⟩
  | some u =>
   rw [hu] at ha
   have hj2:j+1<pts.length:=by have:=(List.getElem?_eq_some_iff.1 hu).1;omega
   obtain ⟨_,hdu,_,_⟩:=ql hf hc (List.getElem?_eq_getElem (l:=fr::pts) (i:=j+1) (by simp;omega)) (List.getElem?_eq_getElem hj2) hu
   refine .inr ⟨u,rfl,hdu,?_⟩
   by_cases he:u=pts[j]'hj∨True
   ·by_cases hq:u≠ws[j]'(by omega)
    ·dsimp only at ha
     rw [if_pos hq] at ha
     exact .inr ⟨hq,ha.symm.trans (add2 hip hd hdu hl)⟩
    ·dsimp only at ha
     rw [if_neg hq] at ha
     exact .inl ⟨Classical.not_not.1 hq,ha.symm.trans (add1 hip hd hl)⟩
   ·exact absurd (.inr trivial) he
end
end Go.Proofs.YteimplkdcjapdaaGreatDoor
namespace Go.Proofs.YteimplkdcjapdaaGreatDoor
open Go.RowKit
theorem perp {w u:Vec} (hw:isDir w) (hu:isDir u) (hne:u≠w) (hb:addV w u≠(0,0,0)):w.1*u.1+w.2.1*u.2.1=0:=by
 rcases hw with rfl | rfl | rfl | rfl<;>rcases hu with rfl | rfl | rfl | rfl
 all_goals first | (exact absurd rfl hne) | (exact absurd (by decide) hb) | decide
section
variable {fr:Vec} {pts ws:List Vec} {left n s:Int} {feeds:List Int}
theorem zcB {k:Nat} {a:Vec} (hf:inV fr=true) (hc:Chain fr pts ws) (hl:-4≤left∧left≤4) (hne:pts≠[]) (ha:(mvP fr left pts ws)[k]?=some a):smV a:=by
 obtain ⟨p,_,hp,h⟩:=zdq hf hc hl ha hne
 have hp:=qb.1 hp
 rcases h with ⟨_,w,_,hw,rfl⟩ | ⟨j,w,_,_,hw,⟨_,rfl⟩ | ⟨u,_,hu,⟨_,rfl⟩ | ⟨_,rfl⟩⟩⟩
 ·rcases hw with rfl | rfl | rfl | rfl<;>exact ⟨by dsimp only;omega,by dsimp only;omega,by dsimp only;omega⟩
 ·rcases hw with rfl | rfl | rfl | rfl<;>exact ⟨by dsimp only;omega,by dsimp only;omega,by dsimp only;omega⟩
 ·rcases hw with rfl | rfl | rfl | rfl<;>exact ⟨by dsimp only;omega,by dsimp only;omega,by dsimp only;omega⟩
 ·rcases hw with rfl | rfl | rfl | rfl<;>rcases hu with rfl | rfl | rfl | rfl<;>exact ⟨by dsimp only;omega,by dsimp only;omega,by dsimp only;omega⟩
theorem ziO {k:Nat} {a p d:Vec} (hf:inV fr=true) (hc:Chain fr pts ws) (hs:s=1∨s=-1) (hn:1≤n∧n≤4) (hne:pts≠[]) (hb:backL ws=false) (ha:(mvP fr (n*s) pts ws)[k]?=some a) (hp:(fr::pts)[k]?=some p) (hd:ws[k]?=some d∨∃j,k=j+1∧ws[j]?=some d):-(s*d.2.1)*(a.1 - p.1)+s*d.1*(a.2.1 - p.2.1)=n∧a.2.2=p.2.2:=by
 have hl:-4≤n*s∧n*s≤4:=by rcases hs with rfl | rfl<;>omega
 obtain ⟨p',h1,_,h⟩:=zdq hf hc hl ha hne
 rw [hp] at h1
 obtain rfl:=Option.some.inj h1
 have key:∀w:Vec,isDir w→-(s*w.2.1)*(p.1 - n*s*w.2.1 - p.1)+s*w.1*(p.2.1+n*s*w.1 - p.2.1)=n:=fun w hw=>by
  rcases hs with rfl | rfl<;>rcases hw with rfl | rfl | rfl | rfl<;>(dsimp only;omega)
 have key2:∀w u:Vec,isDir w→isDir u→w.1*u.1+w.2.1*u.2.1=0→(-(s*w.2.1)*(p.1 - n*s*w.2.1 - n*s*u.2.1 - p.1)+s*w.1*(p.2.1+n*s*w.1+n*s*u.1 - p.2.1)=n)∧(-(s*u.2.1)*(p.1 - n*s*w.2.1 - n*s*u.2.1 - p.1)+s*u.1*(p.2.1+n*s*w.1+n*s*u.1 - p.2.1)=n):=fun w u hw hu h0=>by
  rcases hs with rfl | rfl<;>rcases hw with rfl | rfl | rfl | rfl<;>rcases hu with rfl | rfl | rfl | rfl
  all_goals first | (exfalso;revert h0;decide) | (dsimp only;constructor<;>omega)
 rcases h with ⟨rfl,w,h2,hw,rfl⟩ | ⟨j,w,rfl,h2,hw,⟨h3,rfl⟩ | ⟨u,h3,hu,⟨rfl,rfl⟩ | ⟨hne2,rfl⟩⟩⟩
 ·rcases hd with hd | ⟨j,hj,_⟩
  ·rw [h2] at hd;obtain rfl:=Option.some.inj hd
   exact ⟨key _ hw,rfl⟩
  ·cases hj
 ·rcases hd with hd | ⟨j',hj,hd⟩
  ·rw [h3] at hd;cases hd
  ·obtain rfl:j'=j:=by omega
   rw [h2] at hd;obtain rfl:=Option.some.inj hd
   exact ⟨key _ hw,rfl⟩
 ·rcases hd with hd | ⟨j',hj,hd⟩
  ·rw [h3] at hd;obtain rfl:=Option.some.inj hd
   exact ⟨key _ hw,rfl⟩
  ·obtain rfl:j'=j:=by omega
   rw [h2] at hd;obtain rfl:=Option.some.inj hd
   exact ⟨key _ hw,rfl⟩
 ·have hp0:=perp hw hu hne2 (zc0 hb h2 h3)
  rcases hd with hd | ⟨j',hj,hd⟩
  ·rw [h3] at hd;obtain rfl:=Option.some.inj hd
   exact ⟨(key2 _ _ hw hu hp0).2,rfl⟩
  ·obtain rfl:j'=j:=by omega
   rw [h2] at hd;obtain rfl:=Option.some.inj hd
   exact ⟨(key2 _ _ hw hu hp0).1,rfl⟩
theorem zpQ {k:Nat} {a b d:Vec} (hf:inV fr=true) (hc:Chain fr pts ws) (hl:-4≤left∧left≤4) (hne:pts≠[]) (ht:turnL (mvP fr left pts ws) ws=false) (ha:(mvP fr left pts ws)[k]?=some a) (hb:(mvP fr left pts ws)[k+1]?=some b) (hd:ws[k]?=some d) (hdd:isDir d):b.2.2 - a.2.2=0∧1≤d.1*(b.1 - a.1)+d.2.1*(b.2.1 - a.2.1)∧d.2.1*(b.1 - a.1)=d.1*(b.2.1 - a.2.1):=by
 have h:=zmK ht ha hb hd
 rw [zcf (zcB hf hc hl hne ha) (zcB hf hc hl hne hb)] at h
 exact zpG hdd h
end
end Go.Proofs.YteimplkdcjapdaaGreatDoor
namespace Go.Proofs.YteimplkdcjapdaaGreatDoor
open Go.RowKit
theorem znV {a b:Vec} (ha:isDir a) (hb:isDir b) (h:0≤a.1*b.1+a.2.1*b.2.1):addV a b≠(0,0,0):=by
 rcases ha with rfl | rfl | rfl | rfl<;>rcases hb with rfl | rfl | rfl | rfl
 all_goals first | (exfalso;revert h;decide) | decide
theorem zie {w u:Vec} {l:Int} (hw:isDir w) (hu:isDir u) (h:w.1*u.1+w.2.1*u.2.1=0):∃e:Int,(e=1∨e=-1)∧-(l*u.2.1)=e*l*w.1∧l*u.1=e*l*w.2.1:=by
 rcases hw with rfl | rfl | rfl | rfl<;>rcases hu with rfl | rfl | rfl | rfl
 all_goals first | (exfalso;revert h;decide) | (exact ⟨1,.inl rfl,by dsimp only;omega,by dsimp only;omega⟩) | (exact ⟨-1,.inr rfl,by dsimp only;omega,by dsimp only;omega⟩)
section
variable {fr:Vec} {pts ws:List Vec} {left n s:Int}
theorem znr (hc:Chain fr pts ws) (hf:inV fr=true) (hd:∀(k:Nat) (a b:Vec),ws[k]?=some a→ws[k+1]?=some b→0≤a.1*b.1+a.2.1*b.2.1):backL ws=false:=zlm fun k a b h1 h2=>by
 have hlen:=zP hc
 have l1:=(List.getElem?_eq_some_iff.1 h1).1
 have l2:=(List.getElem?_eq_some_iff.1 h2).1
 obtain ⟨_,da,_,_⟩:=ql hf hc (List.getElem?_eq_getElem (l:=fr::pts) (i:=k) (by simp;omega)) (List.getElem?_eq_getElem (l:=pts) (i:=k) (by omega)) h1
 obtain ⟨_,db,_,_⟩:=ql hf hc (List.getElem?_eq_getElem (l:=fr::pts) (i:=k+1) (by simp;omega)) (List.getElem?_eq_getElem (l:=pts) (i:=k+1) (by omega)) h2
 exact znV da db (hd k a b h1 h2)
theorem zns (hf:inV fr=true) (hc:Chain fr pts ws) (hs:s=1∨s=-1) (hn:1≤n∧n≤4) (hne:pts≠[]) (hb:backL ws=false) (hm:∀(k:Nat) (o q w:Vec),(fr::pts)[k]?=some o→pts[k]?=some q→ws[k]?=some w→2*n<w.1*(q.1 - o.1)+w.2.1*(q.2.1 - o.2.1)):turnL (mvP fr (n*s) pts ws) ws=false:=zln fun k a b w h1 h2 h3=>by
 have hl:-4≤n*s∧n*s≤4:=by rcases hs with rfl | rfl<;>omega
 have hlen:=zP hc
 have l3:=(List.getElem?_eq_some_iff.1 h3).1
 have ho:=List.getElem?_eq_getElem (l:=fr::pts) (i:=k) (by simp;omega)
 have hq:=List.getElem?_eq_getElem (l:=pts) (i:=k) (by omega)
 obtain ⟨_,hw,_,m,hm1,hqe⟩:=ql hf hc ho hq h3
 have hmm:=hm k _ _ w ho hq h3
 obtain ⟨o,hoe⟩:∃o,(fr::pts)[k]'(by simp;omega)=o:=⟨_,rfl⟩
 obtain ⟨q,hqq⟩:∃q,pts[k]'(by omega)=q:=⟨_,rfl⟩
 rw [hoe] at ho hqe hmm
 rw [hqq] at hq hqe hmm
 have hm2:2*n<m:=by
  rw [hqe] at hmm
  rcases hw with rfl | rfl | rfl | rfl<;>(dsimp only at hmm;omega)
 have hA:∃e:Int,(e=0∨e=1∨e=-1)∧a=(o.1 - n*s*w.2.1+e*(n*s)*w.1,o.2.1+n*s*w.1+e*(n*s)*w.2.1,o.2.2):=by
  obtain ⟨p,e1,_,h⟩:=zdq hf hc hl h1 hne
  rw [ho] at e1
  obtain rfl:=Option.some.inj e1
  rcases h with ⟨rfl,w',e2,_,rfl⟩ | ⟨j,w',rfl,e2,hw',⟨e3,rfl⟩ | ⟨u,e3,hu,⟨rfl,rfl⟩ | ⟨hne2,rfl⟩⟩⟩
  ·rw [h3] at e2;obtain rfl:=Option.some.inj e2
   exact ⟨0,.inl rfl,Prod.ext (by dsimp only;omega) (Prod.ext (by dsimp only;omega) rfl)⟩
  ·rw [h3] at e3;cases e3
  ·rw [h3] at e3;obtain rfl:=Option.some.inj e3
   exact ⟨0,.inl rfl,Prod.ext (by dsimp only;omega) (Prod.ext (by dsimp only;omega) rfl)⟩
  ·rw [h3] at e3;obtain rfl:=Option.some.inj e3
   obtain ⟨e,he,x1,x2⟩:=zie (l:=n*s) hw hw' (by have:=perp hw' hw hne2 (zc0 hb e2 h3);rw [← this];rw [Int.mul_comm w.1,Int.mul_comm w.2.1])
   exact ⟨e,.inr he,Prod.ext (by dsimp only;omega) (Prod.ext (by dsimp only;omega) rfl)⟩
 have hB:∃e:Int,(e=0∨e=1∨e=-1)∧b=(q.1 - n*s*w.2.1+e*(n*s)*w.1,q.2.1+n*s*w.1+e*(n*s)*w.2.1,q.2.2):=by
  obtain ⟨p,e1,_,h⟩:=zdq hf hc hl h2 hne
  rw [List.getElem?_cons_succ,hq] at e1
  obtain rfl:=Option.some.inj e1
  rcases h with ⟨h0,_⟩ | ⟨j,w',hj,e2,hw',h⟩
  ·omega
  ·obtain rfl:j=k:=by omega
   rw [h3] at e2;obtain rfl:=Option.some.inj e2
   rcases h with ⟨e3,rfl⟩ | ⟨u,e3,hu,⟨rfl,rfl⟩ | ⟨hne2,rfl⟩⟩
   ·exact ⟨0,.inl rfl,Prod.ext (by dsimp only;omega) (Prod.ext (by dsimp only;omega) rfl)⟩
   ·exact ⟨0,.inl rfl,Prod.ext (by dsimp only;omega) (Prod.ext (by dsimp only;omega) rfl)⟩
   ·obtain ⟨e,he,x1,x2⟩:=zie (l:=n*s) hw hu (perp hw hu hne2 (zc0 hb h3 e3))
    exact ⟨e,.inr he,Prod.ext (by dsimp only;omega) (Prod.ext (by dsimp only;omega) rfl)⟩
 obtain ⟨ea,hea,hae⟩:=hA
 obtain ⟨eb,heb,hbe⟩:=hB
 have hc1:1≤m+eb*(n*s) - ea*(n*s):=by rcases hs with rfl | rfl<;>rcases hea with rfl | rfl | rfl<;>rcases heb with rfl | rfl | rfl<;>omega
 obtain ⟨c,hce⟩:∃c,m+eb*(n*s) - ea*(n*s)=c:=⟨_,rfl⟩
 rw [hce] at hc1
 rw [zcf (zcB hf hc hl hne h1) (zcB hf hc hl hne h2)]
 have d1:b.1 - a.1=c*w.1:=by
  rw [hae,hbe,hqe]
  rcases hw with rfl | rfl | rfl | rfl<;>(dsimp only;omega)
 have d2:b.2.1 - a.2.1=c*w.2.1:=by
  rw [hae,hbe,hqe]
  rcases hw with rfl | rfl | rfl | rfl<;>(dsimp only;omega)
 have d3:b.2.2 - a.2.2=0:=by rw [hae,hbe,hqe];dsimp only;omega
 rw [d1,d2,d3]
 exact zkA hw hc1
theorem zqW (hf:inV fr=true) (hc:Chain fr pts ws) (hs:s=1∨s=-1) (hn:1≤n∧n≤4) (hne:pts≠[]) (hb:backL ws=false) (hi:∀p∈fr::pts,(-24≤p.1 - n∧p.1+n≤24)∧-24≤p.2.1 - n∧p.2.1+n≤24):(mvP fr (n*s) pts ws).all inV=true:=by
 have hl:-4≤n*s∧n*s≤4:=by rcases hs with rfl | rfl<;>omega
 rw [List.all_eq_true]
 intro a ha
 obtain ⟨k,hk⟩:=List.mem_iff_getElem?.1 ha
 obtain ⟨p,e1,hp,h⟩:=zdq hf hc hl hk hne
 have hpi:=hi p (List.mem_of_getElem? e1)
 have hp:=qb.1 hp
 rw [qb]
 rcases h with ⟨_,w,_,hw,rfl⟩ | ⟨j,w,rfl,e2,hw,⟨_,rfl⟩ | ⟨u,e3,hu,⟨_,rfl⟩ | ⟨hne2,rfl⟩⟩⟩
 ·rcases hs with rfl | rfl<;>rcases hw with rfl | rfl | rfl | rfl<;>(dsimp only;omega)
 ·rcases hs with rfl | rfl<;>rcases hw with rfl | rfl | rfl | rfl<;>(dsimp only;omega)
 ·rcases hs with rfl | rfl<;>rcases hw with rfl | rfl | rfl | rfl<;>(dsimp only;omega)
 ·have h0:=perp hw hu hne2 (zc0 hb e2 e3)
  rcases hs with rfl | rfl<;>rcases hw with rfl | rfl | rfl | rfl<;>rcases hu with rfl | rfl | rfl | rfl
  all_goals first | (exfalso;revert h0;decide) | (dsimp only;omega)
end
def mirS (v:Vec):Vec:=(-v.1,v.2.1,v.2.2)
theorem zeJ {d:Vec} (h:isDir d):isDir (mirS d):=by
 rcases h with rfl | rfl | rfl | rfl
 ·exact .inr (.inr (.inl rfl))
 ·exact .inr (.inl rfl)
 ·exact .inl rfl
 ·exact .inr (.inr (.inr rfl))
theorem zf1 (v:Vec):inV (mirS v)=inV v:=by
 rw [Bool.eq_iff_iff,qb,qb]
 unfold mirS
 dsimp only
 omega
theorem zli {a b:Vec} (h:mirS a=mirS b):a=b:=by
 unfold mirS at h
 simp only [Prod.mk.injEq] at h
 exact Prod.ext (by omega) (Prod.ext h.2.1 h.2.2)
theorem zpN {x y z:Int}:hdS (-x) y z=mirS (hdS x y z):=by
 unfold hdS
 by_cases h:z=0∧(x=0∨y=0)
 ·rw [if_pos h,if_pos (by omega)]
  refine Prod.ext ?_ rfl
  show sg (-x)=-(sg x)
  unfold sg
  split<;>split<;>(try split)<;>(try split)<;>omega
 ·rw [if_neg h,if_neg (by omega)];rfl
theorem zoU {v:Vec} (h:smV v):smV (mirS v):=⟨by unfold mirS;dsimp only;have:=h.1;omega,h.2.1,h.2.2⟩
theorem znG {a b:Vec} (ha:smV a) (hb:smV b):headV (mirS a) (mirS b)=mirS (headV a b):=by
 rw [zcf (zoU ha) (zoU hb),zcf ha hb,← zpN]
 unfold mirS
 dsimp only
 rw [show -b.1 - -a.1=-(b.1 - a.1) by omega]
theorem ziM:∀{l:List Vec},(∀d∈l,isDir d)→backL (l.map mirS)=backL l
 | [],_=>rfl
 | [_],_=>rfl
 | x::y::r,h=>by
  have hx:=h x (by simp)
  have hy:=h y (by simp)
  rw [List.map_cons,List.map_cons,backL,backL,← List.map_cons,ziM fun d hd=>h d (List.mem_cons_of_mem _ hd)]
  congr 1
  rcases hx with rfl | rfl | rfl | rfl<;>rcases hy with rfl | rfl | rfl | rfl<;>decide
theorem ziN:∀{l ws:List Vec},(∀p∈l,smV p)→turnL (l.map mirS) (ws.map mirS)=turnL l ws
 | x::y::r,w::ws,h=>by
  have e:=ziN (l:=y::r) (ws:=ws) fun p hp=>h p (List.mem_cons_of_mem _ hp)
  rw [List.map_cons,List.map_cons,List.map_cons,qU,qU,znG (h x (by simp)) (h y (by simp)),← List.map_cons,e]
  congr 2
  rw [decide_eq_decide]
  exact ⟨zli,fun e=>by rw [e]⟩
 | l,[],_=>by rw [List.map_nil,zcV,zcV]
 | [_],_::_,_=>rfl
 | [],_::_,_=>rfl
theorem zf0:∀{fr:Vec} {pts ws:List Vec},Chain fr pts ws→Chain (mirS fr) (pts.map mirS) (ws.map mirS)
 | _,[],[],_=>trivial
 | fr,p::r,w::ws,⟨hw,⟨m,hm,e⟩,hp,hc⟩=>⟨zeJ hw,⟨m,hm,by rw [e];unfold mirS;exact Prod.ext (by dsimp only;rw [Int.mul_neg];omega) rfl⟩,(zf1 p).trans hp,zf0 hc⟩
 | _,[],_::_,h=>h.elim
 | _,_::_,[],h=>h.elim
theorem zeI {p w:Vec} {left:Int} (hp:inV p=true) (hd:isDir w) (hl:-4≤left∧left≤4):addV (mirS p) (zn (-left) (mirS w))=mirS (addV p (zn left w)):=by
 rw [add1 ((zf1 p).trans hp) (zeJ hd) (by omega),add1 hp hd hl]
 unfold mirS
 exact Prod.ext (by dsimp only;rw [Int.neg_mul];omega) (Prod.ext (by dsimp only;rw [Int.neg_mul_neg]) rfl)
theorem znF {p w u:Vec} {left:Int} (hp:inV p=true) (hd:isDir w) (hu:isDir u) (hl:-4≤left∧left≤4):addV (addV (mirS p) (zn (-left) (mirS w))) (zn (-left) (mirS u))=mirS (addV (addV p (zn left w)) (zn left u)):=by
 rw [add2 ((zf1 p).trans hp) (zeJ hd) (zeJ hu) (by omega),add2 hp hd hu hl]
 unfold mirS
 exact Prod.ext (by dsimp only;rw [Int.neg_mul,Int.neg_mul];omega) (Prod.ext (by dsimp only;rw [Int.neg_mul_neg,Int.neg_mul_neg]) rfl)
theorem zf2 {left:Int} (hl:-4≤left∧left≤4):∀{fr:Vec} {pts ws:List Vec},Chain fr pts ws→qk (-left) (pts.map mirS) (ws.map mirS)=(qk left pts ws).map mirS
 | _,[],[],_=>rfl
 | fr,[p],[w],⟨hw,_,hp,hc⟩=>by
  show [addV (mirS p) (zn (-left) (mirS w))]=[mirS (addV p (zn left w))]
  rw [zeI hp hw hl]
 | fr,p::q::r,w::u::ws,⟨hw,_,hp,hc⟩=>by
  have ih:=zf2 hl hc
  have hu:=hc.1
  have e1:qk (-left) ((p::q::r).map mirS) ((w::u::ws).map mirS)=(if mirS u≠mirS w then addV (addV (mirS p) (zn (-left) (mirS w))) (zn (-left) (mirS u)) else addV (mirS p) (zn (-left) (mirS w)))::qk (-left) ((q::r).map mirS) ((u::ws).map mirS):=rfl
  have e2:qk left (p::q::r) (w::u::ws)=(if u≠w then addV (addV p (zn left w)) (zn left u) else addV p (zn left w))::qk left (q::r) (u::ws):=rfl
  rw [e1,e2,ih,List.map_cons]
  congr 1
  show (if mirS u≠mirS w then addV (addV (mirS p) (zn (-left) (mirS w))) (zn (-left) (mirS u)) else addV (mirS p) (zn (-left) (mirS w)))=mirS (if u≠w then addV (addV p (zn left w)) (zn left u) else addV p (zn left w))
  by_cases h:u=w
  ·rw [if_neg (by rw [h];simp),if_neg (by rw [h];simp),zeI hp hw hl]
  ·rw [if_pos fun e=>h (zli e),if_pos h,znF hp hw hu hl]
 | _,[_],_::_::_,h=>h.2.2.2.elim
 | _,_::_::_,[_],h=>h.2.2.2.elim
 | _,[],_::_,h=>h.elim
 | _,_::_,[],h=>h.elim
theorem zpO {fr:Vec} {pts ws:List Vec} {left:Int} (hf:inV fr=true) (hc:Chain fr pts ws) (hl:-4≤left∧left≤4) (hne:pts≠[]):mvP (mirS fr) (-left) (pts.map mirS) (ws.map mirS)=(mvP fr left pts ws).map mirS:=by
 unfold mvP
 rw [List.map_cons,zf2 hl hc]
 congr 1
 match pts,ws,hc,hne with
 | p::r,w::ws,hc,_=>exact zeI hf hc.1 hl
 | [],_,_,hne=>exact absurd rfl hne
 | _::_,[],hc,_=>exact hc.elim
end Go.Proofs.YteimplkdcjapdaaGreatDoor
namespace Go.Proofs.YteimplkdcjapdaaGreatDoor
open Go.RowKit
theorem zkv {n a:Int} (h:-1048576≤n∧n≤1048576):qm (numX n) a=0:=by
 have hv:valB n=true:=zcW.2 h
 show (if (1:Int) > 30 then (2:Int) else if zl 1 n 0 a≠0 then zl 1 n 0 a else 0)=0
 have hf:zl 1 n 0 a=0:=by
  unfold zl
  rw [if_pos (.inl rfl),if_neg (by omega),if_neg (by rw [hv];simp),if_neg (by omega)]
 rw [if_neg (by omega),hf];rfl
theorem zno {n:Int} {args:List Int} (h:-1048576≤n∧n≤1048576):evalE (numX n) args=(n,0):=by
 unfold evalE
 rw [zkv h]
 have hv:valB n=true:=zcW.2 h
 have he:evalX args (numX n)=some n:=by
  have hq:evalX args (numX n)=valO n:=by unfold numX evalX;rfl
  rw [hq]
  unfold valO
  rw [if_pos hv]
 rw [he];rfl
theorem zdE {args:List Int}:∀{l:List Int},(∀n∈l,-1048576≤n∧n≤1048576)→valsE args (l.map numX)=.ok l
 | [],_=>rfl
 | n::r,h=>by
  rw [List.map_cons,valsE,zno (h n (by simp)),zdE fun x hx=>h x (List.mem_cons_of_mem _ hx)]
  rfl
theorem zaU {a:Int}:∀{l:List Int},(∀n∈l,-1048576≤n∧n≤1048576)→za4 a (l.map numX)=0
 | [],_=>rfl
 | n::r,h=>by
  rw [List.map_cons,za4,zkv (h n (by simp)),zaU fun x hx=>h x (List.mem_cons_of_mem _ hx)]
  rfl
theorem zfY (q:Vec) (f:Int):lineX q f=(2,0,[],[q.1,q.2.1,q.2.2,f].map numX):=rfl
theorem zpM {a:Int} {q:Vec} {f:Int} (hq:inV q=true) (hf:1≤f∧f≤100):stmE a (lineX q f)=0:=by
 have h1:ze.find? (qR (lineX q f))=some (ze.getD 1 (0,0,[],0)):=by kernel_rfl
 have h2:fitsF (lineX q f) (ze.getD 1 (0,0,[],0))=true:=by kernel_rfl
 have hq:=qb.1 hq
 unfold stmE
 rw [h1]
 dsimp only
 rw [if_pos h2]
 show (if false=true then _ else za4 a (lineX q f).2.2.2)=0
 rw [if_neg (by simp),zfY]
 exact zaU fun n hn=>by
  simp only [List.mem_cons,List.not_mem_nil,or_false] at hn
  rcases hn with rfl | rfl | rfl | rfl<;>omega
theorem zp4 {a n:Int} {k:Int} (hk:k=1∨k=2) (hn:1≤n∧n≤4):stmE a (sideX k n)=0:=by
 rcases hk with rfl | rfl
 ·have h1:ze.find? (qR (sideX 1 n))=some (ze.getD 4 (0,0,[],0)):=by kernel_rfl
  have h2:fitsF (sideX 1 n) (ze.getD 4 (0,0,[],0))=true:=by kernel_rfl
  unfold stmE
  rw [h1]
  dsimp only
  rw [if_pos h2]
  show (if false=true then _ else za4 a ([n].map numX))=0
  rw [if_neg (by simp)]
  exact zaU fun x hx=>by obtain rfl:=List.mem_singleton.1 hx;omega
 ·have h1:ze.find? (qR (sideX 2 n))=some (ze.getD 5 (0,0,[],0)):=by kernel_rfl
  have h2:fitsF (sideX 2 n) (ze.getD 5 (0,0,[],0))=true:=by kernel_rfl
  unfold stmE
  rw [h1]
  dsimp only
  rw [if_pos h2]
  show (if false=true then _ else za4 a ([n].map numX))=0
  rw [if_neg (by simp)]
  exact zaU fun x hx=>by obtain rfl:=List.mem_singleton.1 hx;omega
def qS:Int→List Vec→List Stm
 | _,[]=>[]
 | k,q::r=>lineX q k::qS (k+1) r
def besL (side n:Int) (pts:List Vec):List Stm:=sideX side n::qS 1 pts
theorem zdk:∀{k:Int} {l:List Vec},(qS k l).length=l.length
 | _,[]=>rfl
 | _,_::_=>by rw [qS,List.length_cons,List.length_cons,zdk]
theorem zjh {a:Int}:∀{l:List Stm},(∀s∈l,stmE a s=0)→stmsE a l=0
 | [],_=>rfl
 | s::r,h=>by rw [stmsE,h s (by simp),zjh fun x hx=>h x (List.mem_cons_of_mem _ hx)];rfl
theorem zdl:∀{k:Int} {l:List Vec} {x:Stm},x∈qS k l→∃q∈l,∃f:Int,k≤f∧f<k+l.length∧x=lineX q f
 | _,[],_,h=>by cases h
 | k,q::r,x,h=>by
  rw [qS] at h
  rcases List.mem_cons.1 h with rfl | h
  ·exact ⟨q,by simp,k,Int.le_refl _,by rw [List.length_cons];omega,rfl⟩
  ·obtain ⟨q',h1,f,h2,h3,h4⟩:=zdl h
   exact ⟨q',List.mem_cons_of_mem _ h1,f,by omega,by rw [List.length_cons];omega,h4⟩
theorem zjv {l:List Stm} (hl:l.length≤118) (h:∀s∈l,stmE 0 s=0):zG (mainX l)=0:=by
 unfold zG
 have e:zas (mainX l)=2+l.length:=by show 2+l.length+0=_;omega
 rw [if_neg (by rw [e];omega)]
 show (if !nameB [109,97,105,110] then (10:Int) else _)=0
 rw [show nameB [109,97,105,110]=true by decide +kernel]
 show (if stmsE 0 l≠0 then stmsE 0 l else (0:Int))=0
 rw [zjh h];rfl
theorem zn5 {l:List Stm} (hl:l.length≤118) (h:∀s∈l,s.2.2.2.length≤1000000∧∀e∈s.2.2.2,nodes e≤1000000):SbW (mainX l):=by
 refine ⟨by show 1≤1000000;omega,fun s hs=>?_⟩
 obtain rfl:=List.mem_singleton.1 hs
 exact ⟨by show l.length≤1000000;omega,h⟩
theorem zlp (n:Int):nodes (numX n)=1:=rfl
theorem zlq {l:List Int} (h:l.length≤1000000):(l.map numX).length≤1000000∧∀e∈l.map numX,nodes e≤1000000:=⟨by rw [List.length_map];exact h,fun e he=>by
 obtain ⟨n,_,rfl⟩:=List.mem_map.1 he
 rw [zlp];omega⟩
section
variable {side n:Int} {pts:List Vec} (hk:side=1∨side=2) (hn:1≤n∧n≤4) (hp:∀q∈pts,inV q=true) (hl:pts.length≤90)
include hk hn hp hl
theorem zfE:zG (mainX (besL side n pts))=0:=by
 refine zjv (by unfold besL;rw [List.length_cons,zdk];omega) fun s hs=>?_
 rcases List.mem_cons.1 hs with rfl | hs
 ·exact zp4 hk hn
 ·obtain ⟨q,h1,f,h2,h3,rfl⟩:=zdl hs
  exact zpM (hp q h1) (by omega)
theorem bes_w:SbW (mainX (besL side n pts)):=by
 refine zn5 (by unfold besL;rw [List.length_cons,zdk];omega) fun s hs=>?_
 rcases List.mem_cons.1 hs with rfl | hs
 ·rcases hk with rfl | rfl
  ·exact zlq (l:=[n]) (by simp)
  ·exact zlq (l:=[n]) (by simp)
 ·obtain ⟨q,h1,f,h2,h3,rfl⟩:=zdl hs
  exact zlq (l:=[q.1,q.2.1,q.2.2,f]) (by simp)
end
def qA:Int→Nat→List Int
 | _,0=>[]
 | k,n+1=>k::qA (k+1) n
theorem zle {su:List (List UInt8×Sb)} {m:Nat} {pt q fr w:Vec} {mv:List Mov} {dn f left:Int} {a:List Vec} {b:List Int} (hp:inV pt=true) (hq:inV q=true) (hf:1≤f∧f≤100) (hd:dn<1000) (hw:isDir w) (he:∃k:Int,1≤k∧q=(pt.1+k*w.1,pt.2.1+k*w.2.1,pt.2.2)):stepC su m [] (pt,mv,dn,some (fr,left,a,b)) (lineX q f)=.ok (q,mv,dn+1,some (fr,left,a++[q],b++[f])):=by
 obtain ⟨k,hk,e⟩:=he
 have hh:=zfV hp hq hw hk e
 have hqi:=qb.1 hq
 have hvs:valsE [] (lineX q f).2.2.2=.ok [q.1,q.2.1,q.2.2,f]:=by
  rw [zfY]
  exact zdE fun n hn=>by
   simp only [List.mem_cons,List.not_mem_nil,or_false] at hn
   rcases hn with rfl | rfl | rfl | rfl<;>omega
 rw [zH (v:=[q.1,q.2.1,q.2.2,f]) (by show ¬ dn ≥ 1000;omega) (by show (2:Int)≠5;omega) hvs,hand2 rfl]
 unfold lineS
 have hv:vecOf [q.1,q.2.1,q.2.2,f] 0=q:=rfl
 have hf2:List.getD [q.1,q.2.1,q.2.2,f] 3 0=f:=rfl
 rw [hv,hf2,hq]
 rw [if_pos (by simp;omega)]
 dsimp only
 have hne:q≠pt:=by
  rintro rfl
  have e1:=congrArg Prod.fst e
  have e2:=congrArg (fun v:Vec=>v.2.1) e
  dsimp only at e1 e2
  rcases hw with rfl | rfl | rfl | rfl<;>(dsimp only at e1 e2;omega)
 have hne2:headV pt q≠(0,0,0):=by
  rw [hh]
  rcases hw with rfl | rfl | rfl | rfl<;>decide
 rw [if_neg hne,if_neg hne2]
theorem zd6 {su:List (List UInt8×Sb)} {m:Nat} {fr:Vec} {left:Int} {mv:List Mov}:∀{pts ws:List Vec} {pt:Vec} {k dn:Int} {a:List Vec} {b:List Int},inV pt=true→Chain pt pts ws→1≤k→k+pts.length≤101→dn+pts.length≤1000→∃z,(qS k pts).foldlM (stepC su m []) (pt,mv,dn,some (fr,left,a,b))=.ok (z,mv,dn+pts.length,some (fr,left,a++pts,b++qA k pts.length))
 | [],[],pt,k,dn,a,b,_,_,_,_,_=>⟨pt,by show _=Except.ok (pt,mv,dn+0,some (fr,left,a++[],b++[]));rw [List.append_nil,List.append_nil,Int.add_zero];rfl⟩
 | p::r,w::ws,pt,k,dn,a,b,hpt,⟨hw,he,hp,hc⟩,hk,h1,h2=>by
  rw [List.length_cons] at h1 h2
  obtain ⟨z,hz⟩:=zd6 (pt:=p) (k:=k+1) (dn:=dn+1) (a:=a++[p]) (b:=b++[k]) hp hc (by omega) (by omega) (by omega)
  refine ⟨z,?_⟩
  rw [qS,List.foldlM_cons,zle hpt hp (by omega) (by omega) hw he]
  show (qS (k+1) r).foldlM (stepC su m []) _=_
  rw [hz,List.length_cons,qA,List.append_assoc,List.append_assoc,show dn+1+(r.length:Int)=dn+((r.length+1:Nat):Int) by omega]
  rfl
 | [],_::_,_,_,_,_,_,_,h,_,_,_=>h.elim
 | _::_,[],_,_,_,_,_,_,h,_,_,_=>h.elim
def expL:Vec→Nat→List Vec→List Int→List Mov
 | _,_,[],_=>[]
 | a,k,p::r,f=>(2,a,p,(0,0,0),f.getD (k - 1) 0)::expL p (k+1) r f
def Dist:Vec→List Vec→Prop
 | _,[]=>True
 | a,p::r=>a≠p∧Dist p r
theorem zic {f:List Int}:∀{l:List Vec} {k:Nat} {a:Vec} {mv:List Mov} {dn:Int},Dist a l→mv.length+l.length≤40→∃z,addsL f k l (a,mv,dn,none)=.ok (z,mv++expL a k l f,dn,none)
 | [],k,a,mv,dn,_,_=>⟨a,by rw [addsL,expL,List.append_nil]⟩
 | p::r,k,a,mv,dn,⟨hne,hd⟩,hl=>by
  rw [List.length_cons] at hl
  have e:addS (2,(0,0,0),p,(0,0,0),f.getD (k - 1) 0) (a,mv,dn,none)=.ok (p,mv++[(2,a,p,(0,0,0),f.getD (k - 1) 0)],dn,none):=by
   unfold addS
   dsimp only
   rw [if_neg (fun h=>hne h.2),if_neg (by omega)]
  obtain ⟨z,hz⟩:=zic (f:=f) (l:=r) (k:=k+1) (a:=p) (mv:=mv++[(2,a,p,(0,0,0),f.getD (k - 1) 0)]) (dn:=dn) hd (by rw [List.length_append,List.length_singleton];omega)
  exact ⟨z,by rw [addsL,e];dsimp only;rw [hz,expL,List.append_assoc];rfl⟩
def besR (fr:Vec) (left:Int) (pts ws:List Vec) (feeds:List Int):List Mov×Int:=
 if pts=[] then ([],0) else if backL ws then ([],17) else if turnL (mvP fr left pts ws) ws then ([],17) else if (mvP fr left pts ws).all inV then (expL fr 0 (mvP fr left pts ws) feeds,0) else ([],3)
theorem zfK:∀{l ws:List Vec} {p:Vec},ws.length=l.length→(∀w∈ws,isDir w)→turnL (p::l) ws=false→(∀q∈p::l,smV q)→Dist p l
 | [],_,_,_,_,_,_=>trivial
 | q::r,w::ws,p,hl,hw,ht,hs=>by
  rw [qU,Bool.or_eq_false_iff] at ht
  refine ⟨?_,zfK (ws:=ws) (by simpa using hl) (fun x hx=>hw x (List.mem_cons_of_mem _ hx)) ht.2 fun x hx=>hs x (List.mem_cons_of_mem _ hx)⟩
  rintro rfl
  have h1:headV p p=w:=by simpa using ht.1
  rw [zcf (hs p (by simp)) (hs p (by simp))] at h1
  simp only [Int.sub_self] at h1
  have:=hw w (by simp)
  rcases this with rfl | rfl | rfl | rfl<;>revert h1<;>decide
 | _::_,[],_,hl,_,_,_=>by cases hl
theorem zad:∀{fr:Vec} {pts ws:List Vec},Chain fr pts ws→∀w∈ws,isDir w
 | _,[],[],_,_,h=>by cases h
 | _,_::_,_::_,hc,x,h=>by
  rcases List.mem_cons.1 h with rfl | h
  ·exact hc.1
  ·exact zad hc.2.2.2 x h
 | _,[],_::_,h,_,_=>h.elim
 | _,_::_,[],h,_,_=>h.elim
theorem zcG:∀{fr:Vec} {pts ws:List Vec},Chain fr pts ws→∀p∈pts,inV p=true
 | _,[],[],_,_,h=>by cases h
 | _,_::_,_::_,hc,x,h=>by
  rcases List.mem_cons.1 h with rfl | h
  ·exact hc.2.2.1
  ·exact zcG hc.2.2.2 x h
 | _,[],_::_,h,_,_=>h.elim
 | _,_::_,[],h,_,_=>h.elim
theorem zlk {fr:Vec} {pts ws:List Vec} {left:Int} (hf:inV fr=true) (hc:Chain fr pts ws) (hl:-4≤left∧left≤4) (hne:pts≠[]):∀q∈mvP fr left pts ws,smV q:=fun q hq=>by
 obtain ⟨k,hk⟩:=List.mem_iff_getElem?.1 hq
 exact zcB hf hc hl hne hk
theorem zpS {fr pt:Vec} {pts ws:List Vec} {left dn:Int} {feeds:List Int} (hf:inV fr=true) (hc:Chain fr pts ws) (hl:(-4≤left∧left≤4)∧left≠0) (hlen:pts.length≤39):(match offS (pt,[],dn,some (fr,left,pts,feeds)) with
  | .ok t=>(t.2.1,(0:Int))
  | .error e=>([],e))=besR fr left pts ws feeds:=by
 unfold offS besR
 dsimp only
 by_cases hne:pts=[]
 ·rw [if_pos hne,if_pos hne]
 ·rw [if_neg hne,if_neg hne,zct hf hc,zlj hf hc]
  cases hb:backL ws with
  | true=>rfl
  | false =>
   simp only [Bool.false_eq_true,if_false]
   cases ht:turnL (mvP fr left pts ws) ws with
   | true=>rfl
   | false =>
    simp only [Bool.false_eq_true,if_false]
    by_cases hi:(mvP fr left pts ws).all inV=true
    ·rw [if_pos hi,if_pos hi]
     have hd:Dist fr (mvP fr left pts ws):=by
      have hsm:=zlk hf hc hl.1 hne
      unfold mvP at ht hsm ⊢
      refine ⟨?_,zfK (by rw [zaf (zP hc)];exact zP hc) (zad hc) ht hsm⟩
      match pts,ws,hc,hne with
      | p::r,w::ws,hc,_ =>
       intro e
       have e:=e.trans (add1 hf hc.1 hl.1)
       have e1:fr.1=fr.1 - left*w.2.1:=congrArg Prod.fst e
       have e2:fr.2.1=fr.2.1+left*w.1:=congrArg (fun v:Vec=>v.2.1) e
       have h1:w.2.1=0:=(Int.mul_eq_zero.1 (show left*w.2.1=0 by omega)).resolve_left hl.2
       have h2:w.1=0:=(Int.mul_eq_zero.1 (show left*w.1=0 by omega)).resolve_left hl.2
       rcases hc.1 with rfl | rfl | rfl | rfl<;>first | exact absurd h1 (by decide) | exact absurd h2 (by decide)
      | [],_,_,hne=>exact absurd rfl hne
      | _::_,[],hc,_=>exact hc.elim
     obtain ⟨z,hz⟩:=zic (f:=feeds) (k:=0) (mv:=[]) (dn:=dn) hd (by unfold mvP;rw [List.length_cons,zaf (zP hc),List.length_nil];omega)
     rw [hz]
     rfl
    ·rw [if_neg hi,if_neg hi]
theorem zmc {su:List (List UInt8×Sb)} {m:Nat} {fr:Vec} {side n s:Int} (hk:(side=1∧s=1)∨(side=2∧s=-1)) (hn:1≤n∧n≤4):stepC su m [] (fr,[],0,none) (sideX side n)=.ok (fr,[],1,some (fr,n*s,[],[])):=by
 have hs:side≠0:=by omega
 have hx:sideX side n=(4,side,[],[n].map numX):=if_neg hs
 rw [hx,zH (v:=[n]) (by show ¬ (0:Int) ≥ 1000;omega) (by show (4:Int)≠5;omega) (zdE fun x hx=>by obtain rfl:=List.mem_singleton.1 hx;omega),hand4 rfl]
 unfold turnS
 show (if side=0 then _ else if (none:Option Str).isSome then _ else if n<1∨n > 24 then _ else Except.ok (fr,[],1,some (fr,wI (n*wI (3 - wI (2*side))),[],[])))=_
 rw [if_neg hs,if_neg (by simp),if_neg (by omega)]
 rcases hk with ⟨rfl,rfl⟩ | ⟨rfl,rfl⟩
 ·rw [wI_eq (x:=2*1) (by omega),wI_eq (x:=3 - 2*1) (by omega),wI_eq (by omega)]
  rfl
 ·rw [wI_eq (x:=2*2) (by omega),wI_eq (x:=3 - 2*2) (by omega),wI_eq (by omega)]
  rfl
theorem zl5 {fr:Vec} {pts ws:List Vec} {side n s:Int} (hf:inV fr=true) (hc:Chain fr pts ws) (hk:(side=1∧s=1)∨(side=2∧s=-1)) (hn:1≤n∧n≤4) (hlen:pts.length≤39):runP (mainX (besL side n pts)) [] fr=besR fr (n*s) pts ws (qA 1 pts.length):=by
 have h:=zfE (side:=side) (n:=n) (pts:=pts) (by omega) hn (zcG hc) (by omega)
 unfold runP
 rw [zgf h hf (x:=([109,97,105,110],0,besL side n pts)) rfl,if_neg (by show ¬ (0:Int)≠0;omega)]
 have hz:∃z,zF (suOf (mainX (besL side n pts))) 7 (besL side n pts) [] (fr,[],0,none)=.ok (z,[],1+(pts.length:Int),some (fr,n*s,pts,qA 1 pts.length)):=by
  obtain ⟨z,hz⟩:=zd6 (su:=suOf (mainX (besL side n pts))) (m:=6) (fr:=fr) (left:=n*s) (mv:=[]) (k:=1) (dn:=1) (a:=[]) (b:=[]) hf hc (by omega) (by omega) (by omega)
  refine ⟨z,?_⟩
  rw [zdT,besL,List.foldlM_cons,zmc hk hn]
  exact hz
 obtain ⟨z,hz⟩:=hz
 show (match (match zF (suOf (mainX (besL side n pts))) 7 (besL side n pts) [] (fr,[],0,none) with
  | .error e=>.error e
  | .ok s=>match offS s with
   | .error e=>.error e
   | .ok t=>.ok t.2.1:Except Int (List Mov)) with
  | .ok r=>(r,(0:Int))
  | .error k=>([],k))=_
 rw [hz,← zpS (pt:=z) (dn:=1+(pts.length:Int)) hf hc (by rcases hk with ⟨_,rfl⟩ | ⟨_,rfl⟩<;>omega) hlen]
 dsimp only
 cases offS (z,[],1+(pts.length:Int),some (fr,n*s,pts,qA 1 pts.length))<;>rfl
end Go.Proofs.YteimplkdcjapdaaGreatDoor
namespace Go.Proofs.YteimplkdcjapdaaGreatDoor
open Go.RowKit
def cTn (x:Int×Int):List Pred:=[pV (.int .u8 x.1),pV (.int .u8 x.2)]
def kTn (x:Int×Int):List SV:=[.v (.int .u8 x.1),.v (.int .u8 x.2)]
instance {w0:World} {x:Int×Int}:FiL (KN w0) (kTn x):=inferInstanceAs (FiL (KN w0) [_,_])
instance {w0:World} {xs:List (Int×Int)}:Fi (KN w0) (.ls 2 cTn kTn xs):=fi_ls (fun _=>rfl) (fun _=>inferInstance) (fun _=>rfl)
def zcw (a b:Vec):Vec:=(wI (wI (a.2.1*b.2.2) - wI (a.2.2*b.2.1)),wI (wI (a.2.2*b.1) - wI (a.1*b.2.2)),wI (wI (a.1*b.2.1) - wI (a.2.1*b.1)))
def zmd (v:Vec):Vec:=(v.1.tmod 12,v.2.1.tmod 12,v.2.2.tmod 12)
def dirs4:List Vec:=[((1:Int),(0:Int),(0:Int)),((0:Int),(1:Int),(0:Int)),((-1:Int),(0:Int),(0:Int)),((0:Int),(-1:Int),(0:Int))]
def zr (n:Int):Vec:=dirs4.getD (n.tmod 4).toNat (0,0,0)
def stepT (a:Vec) (t:Int×Int):Vec:=addV a (wI (wI (1+(wI t.2).tmod 9)*(zr t.1).1),wI (wI (1+(wI t.2).tmod 9)*(zr t.1).2.1),0)
def cornL:Vec→List (Int×Int)→List Vec
 | _,[]=>[]
 | a,t::r=>stepT a t::cornL (stepT a t) r
def cornP (a:Vec) (l:List (Int×Int)):List Vec:=a::cornL a (l.take 6)
theorem zpz {a:Vec} {l:List (Int×Int)} {k:Nat} {x:Int×Int} (h:l[k]?=some x) (hk:k<6):cornL a ((l.take 6).drop k)=stepT a x::cornL (stepT a x) ((l.take 6).drop (k+1)):=by
 have h2:(l.take 6)[k]?=some x:=by rw [List.getElem?_take_of_lt hk];exact h
 obtain ⟨h1,rfl⟩:=List.getElem?_eq_some_iff.1 h2
 rw [List.drop_eq_getElem_cons h1,cornL]
theorem znB {l:List Vec} {k:Nat} {x:Vec} {i:Int} (h:l[k]?=some x):qS i (l.drop k)=lineX x i::qS (i+1) (l.drop (k+1)):=by
 obtain ⟨h1,rfl⟩:=List.getElem?_eq_some_iff.1 h
 rw [List.drop_eq_getElem_cons h1,qS]
def zmn:Tr:=.s [(7,.bin .mul 3 1 5),(12,.bin .mul 3 2 4),(13,.bin .sub 3 6 7),(18,.bin .mul 3 2 3),(23,.bin .mul 3 0 5),(24,.bin .sub 3 9 10),(29,.bin .mul 3 0 4),(34,.bin .mul 3 1 3),(35,.bin .sub 3 12 13)] (.z (.ret false (.o (.g [8,11,14])) []))
theorem zqi {w0:World} (a b:Vec) (r:Vec) (hr:zcw a b=r):Fun (KN w0) Tryz.prog 40 [.o (.g [pI a.1,pI a.2.1,pI a.2.2]),.o (.g [pI b.1,pI b.2.1,pI b.2.2])] (.o (.g [pI r.1,pI r.2.1,pI r.2.2])):=by
 refine tfn w0 40 ⟨[.o (.g [0,1,2]),.o (.g [3,4,5])],[],[],0,0⟩ ⟨6,[sI b.2.2,sI b.2.1,sI b.1,sI a.2.2,sI a.2.1,sI a.1],[],[]⟩ zmn (by kernel_rfl) ?_
 intro v1 e1 v2 e2 v3 e3 v4 e4 v5 e5 v6 e6 v7 e7 v8 e8 v9 e9
 intro hc
 refine Fun.fin (r:=.o (.g [pI v3,pI v6,pI v9])) (zc (hc)) (fun v W D h=>?_)
 have r0:r=(v3,v6,v9):=by
  (rw [← hr];unfold zcw;simp_all)
 rw [r0];exact h
def zmE:Tr:=.s [(4,.dv .rem 3 0 (kI 12)),(7,.dv .rem 3 1 (kI 12)),(10,.dv .rem 3 2 (kI 12)),(11,.call 21 [3,4,5] (.o (.g 3)))] (.z (.ret false (.o (.g [6,7,8])) []))
theorem zqx {w0:World} (p:Vec) (r:Vec) (hr:zmd p=r):Fun (KN w0) Tryz.prog 15 [.o (.g [pI p.1,pI p.2.1,pI p.2.2])] (.o (.g [pI r.1,pI r.2.1,pI r.2.2])):=by
 refine tfn w0 15 ⟨[.o (.g [0,1,2])],[],[],0,0⟩ ⟨3,[sI p.2.2,sI p.2.1,sI p.1],[],[]⟩ zmE (by kernel_rfl) ?_
 refine ai (by decide) fun v1 e1=>?_
 refine ai (by decide) fun v2 e2=>?_
 refine ai (by decide) fun v3 e3=>?_
 obtain ⟨v4,e4⟩:=LX ((v1,v2,v3))
 refine cx (.o (.g [sI v4.1,sI v4.2.1,sI v4.2.2])) (zY v1 v2 v3 v4 e4) rfl ?_
 intro hc
 refine Fun.fin (r:=.o (.g [pI v4.1,pI v4.2.1,pI v4.2.2])) (zc (hc)) (fun v W D h=>?_)
 have r0:r=v4:=by
  (rw [← hr];unfold zmd;simp_all)
 rw [r0];exact h
theorem tm4 {n:Int} (hn:0≤n):0≤n.tmod 4∧n.tmod 4<4:=by rw [Int.tmod_eq_emod_of_nonneg hn];omega
def zhV:Tr:=.s [(0,.raw [(1000005,.dat 26 4 [.k (.int .i64 1),.k (.int .i64 0),.k (.int .i64 0),.k (.int .i64 0),.k (.int .i64 1),.k (.int .i64 0),.k (.int .i64 (-1)),.k (.int .i64 0),.k (.int .i64 0),.k (.int .i64 0),.k (.int .i64 (-1)),.k (.int .i64 0)] 1)] 1),(7,.dv .rem 5 0 (.k (.int .u8 4))),(8,.ia 35 26 3 1 2),(9,.ld 26 3 3)] (.z (.ret false (.o (.g [4,5,6])) []))
theorem zb1 {w0:World} (n:Int) (r:Vec) (hr:zr n=r) (hn:0≤n):Fun (KN w0) Tryz.prog 37 [.o (.c (pV (.int .u8 n)))] (.o (.g [pI r.1,pI r.2.1,pI r.2.2])):=by
 refine tfn w0 37 ⟨[0],[],[],0,0⟩ ⟨1,[.v (.int .u8 n)],[],[]⟩ zhV (by kernel_rfl) ?_
 obtain ⟨v1,e1⟩:=LX (([((1:Int),(0:Int),(0:Int)),((0:Int),(1:Int),(0:Int)),((-1:Int),(0:Int),(0:Int)),((0:Int),(-1:Int),(0:Int))]:List Vec))
 refine rx [.ls 3 cV kV v1] [] [] (fun t u w=>⟨e_dat (c:=cV) (l:=([((1:Int),(0:Int),(0:Int)),((0:Int),(1:Int),(0:Int)),((-1:Int),(0:Int),(0:Int)),((0:Int),(-1:Int),(0:Int))]:List Vec)) (ps:=(pV (.int .i64 1)::pV (.int .i64 0)::pV (.int .i64 0)::pV (.int .i64 0)::pV (.int .i64 1)::pV (.int .i64 0)::pV (.int .i64 (-1))::pV (.int .i64 0)::pV (.int .i64 0)::pV (.int .i64 0)::pV (.int .i64 (-1))::pV (.int .i64 0)::[])) (qs:=(pI ((1:Int),(0:Int),(0:Int)).1::pI ((1:Int),(0:Int),(0:Int)).2.1::pI ((1:Int),(0:Int),(0:Int)).2.2::pI ((0:Int),(1:Int),(0:Int)).1::pI ((0:Int),(1:Int),(0:Int)).2.1::pI ((0:Int),(1:Int),(0:Int)).2.2::pI ((-1:Int),(0:Int),(0:Int)).1::pI ((-1:Int),(0:Int),(0:Int)).2.1::pI ((-1:Int),(0:Int),(0:Int)).2.2::pI ((0:Int),(-1:Int),(0:Int)).1::pI ((0:Int),(-1:Int),(0:Int)).2.1::pI ((0:Int),(-1:Int),(0:Int)).2.2::[])) (by rw [e1];rfl) rfl rfl rfl (pimps (fun _ _ _ h=>h) <| pimps (fun _ _ _ h=>h) <| pimps (fun _ _ _ h=>h) <| pimps (fun _ _ _ h=>h) <| pimps (fun _ _ _ h=>h) <| pimps (fun _ _ _ h=>h) <| pimps (fun _ _ _ h=>h) <| pimps (fun _ _ _ h=>h) <| pimps (fun _ _ _ h=>h) <| pimps (fun _ _ _ h=>h) <| pimps (fun _ _ _ h=>h) <| pimps (fun _ _ _ h=>h) <| zf) rfl,trivial⟩) ?_
 refine ai (by decide) fun v2 e2=>?_
 refine ai (by (have h4:=tm4 hn;have h5:(n.tmod 4).toNat<v1.length:=(by rw [← e1];show (n.tmod 4).toNat<4;omega);exact ⟨(n.tmod 4).toNat,_,by rw [← e2];omega,List.getElem?_eq_getElem h5⟩)) fun n3 x4 s5 s6=>?_
 intro hc
 refine Fun.fin (r:=.o (.g [pI x4.1,pI x4.2.1,pI x4.2.2])) (zc (hc)) (fun v W D h=>?_)
 have r0:r=x4:=by
  (rw [← hr,zr,e2,s5,Int.toNat_natCast,List.getD_eq_getElem?_getD,show dirs4=v1 from e1,s6];rfl)
 rw [r0];exact h
theorem zij {l:List (Int×Int)} {k:Nat} (h:l.length≤k∨6≤k):(l.take 6).drop k=[]:=List.drop_eq_nil_of_le (by rw [List.length_take];omega)
def zg0:List Atom:=[.sl 1 3,.sl 2 (.o (.c (.p 0 0))),.sl 4 (.o (.c (.k (.slice none 0 0)))),.sl 5 (.o (.c (.gr 3))),.sl 6 4,.bx 0 26 [.h 5,.h 6,.h 7],.gl 3 26 3 1]
def coA_S:LoopS:=⟨3,zg0.map (tnA (jf (hZ 4 [kI 0,0,1,2])) (kf [0,0]) (kf [])),(.x 0),(drs [4,5] zg0)⟩
def coA_t:Tr:=.s [(6002,.ln 69 3 3),(6003,.bin .lss 3 4 8)] (.b 9 (.s [(6006,.bin .lss 3 4 (kI 6))] (.b 10 (.s [(6010,.ia 69 76 2 3 4),(6011,.fa 76 0 0 0 11),(6012,.ld 5 0 12),(6013,.call 37 [13] (.o (.g 3))),(6016,.ia 69 76 2 3 4),(6017,.fa 76 1 1 0 17),(6018,.ld 5 0 18),(0,.raw [(1006019,.op (.cv 5 3) [19] [] 20)] 1),(6020,.dv .rem 3 20 (kI 9)),(6021,.bin .add 3 (kI 1) 21),(6029,.bin .mul 3 22 14),(6033,.bin .mul 3 22 15),(6034,.call 21 [23,24,LF (kI 0)] (.o (.g 3))),(6035,.call 20 [.o (.g [5,6,7]),.o (.g [25,26,27])] (.o (.g 3))),(0,.raw [(1006039,.dat 26 1 [.h 28,.h 29,.h 30] 31)] 1),(0,.raw [(1006040,.app 26 3 3 1 2 31 [] false)] 0),(6043,.bin .add 3 4 (kI 1))] (.z (.nx (hZ 4 [32,28,29,30]) [0,2] []))) (.z (.xt (.x 0) (hZ 4 []) [0,1] [])))) (.z (.xt (.x 0) (hZ 4 []) [0,1] [])))
theorem zqR {w0:World} (p:Vec) (l:(List (Int×Int))) (o2:(List Vec)) (hB:∀t∈l,0≤t.1) (hl:l.length<9223372036854775808) (hO:(([p]:List Vec))++cornL p (l.take 6)=o2):LpH (KN w0) Tryz.prog 33 ⟨ntOf Tryz.prog 33,[],[]⟩ coA_S 0 ⟨4,[.ls 2 cTn kTn l,sI p.2.2,sI p.2.1,sI p.1],[pG cV ([p]:List Vec),pG cV o2],[]⟩:=by
 refine zq _ ⟨zg0,coA_S,(8,2,0),(4,2,0),6000⟩ (T:=Int×Vec×(List Vec)) (fun t=>⟨8,[sI t.2.1.2.2,sI t.2.1.2.1,sI t.2.1.1,sI t.1,.ls 2 cTn kTn l,sI p.2.2,sI p.2.1,sI p.1],[pG cV ([p]:List Vec),pG cV t.2.2],[]⟩) (fun (i,at_,o)=>∃k:Nat,i=(k:Int)∧k≤l.length∧k≤6∧o.length=k+1∧o++cornL at_ ((l.take 6).drop k)=o2) (fun (i,at_,o)=>((l.length:Int) - i).toNat) ((0:Int),p,([p]:List Vec)) (hZ 4 [kI 0,0,1,2]) [0,0] [] coA_t mixed ⟨0,rfl,Nat.zero_le _,Nat.zero_le _,rfl,hO⟩ rfl rfl rfl rfl (fun _=>rfl) rfl rfl (by kernel_rfl) ?_
 rintro ⟨i,at_,o⟩ hJ
 dsimp only at hJ ⊢
 obtain ⟨k,hi,hk,hk6,hol,hs⟩:=hJ
 intro v501 e501 v502 e502
 refine ai (fun h503=>?_) fun h503=>?_
 ·
  intro v504 e504
  refine ai (fun h505=>?_) fun h505=>?_
  ·
   refine ai (by (have dh503:=LD e502 h503;have dh505:=LD e504 h505;have hlt:k<l.length:=(by omega);exact ⟨k,_,hi,List.getElem?_eq_getElem hlt⟩)) fun n506 x507 s508 s509=>?_
   obtain ⟨v510,e510⟩:=LX (zr x507.1)
   have s511:0≤x507.1:=by exact hB _ (List.mem_of_getElem? s509)
   refine cx (.o (.g [sI v510.1,sI v510.2.1,sI v510.2.2])) (zb1 x507.1 v510 e510 s511) rfl ?_
   refine ai (by (have dh503:=LD e502 h503;have dh505:=LD e504 h505;have hlt:k<l.length:=(by omega);exact ⟨k,_,hi,List.getElem?_eq_getElem hlt⟩)) fun n512 x513 s514 s515=>?_
   obtain ⟨v516,e516⟩:=LX (IntKind.i64.wrap x513.2)
   refine rx [sI v516] [] [] (fun t u w=>⟨e_op1 (za rfl) (za rfl) (fun W=>by rw [← e516];exact r_cvi (by kernel_rfl) (by kernel_rfl) W),trivial⟩) ?_
   refine ai (by decide) fun v517 e517=>?_
   intro v518 e518 v519 e519 v520 e520
   obtain ⟨v521,e521⟩:=LX ((v519,v520,(0:Int)))
   refine cx (.o (.g [sI v521.1,sI v521.2.1,sI v521.2.2])) (zY v519 v520 (0:Int) v521 e521) rfl ?_
   obtain ⟨v522,e522⟩:=LX (addV at_ v521)
   refine cx (.o (.g [sI v522.1,sI v522.2.1,sI v522.2.2])) (t_add at_ v521 v522 e522) rfl ?_
   obtain ⟨v523,e523⟩:=LX (([v522]:List Vec))
   refine rx [.ls 3 cV kV v523] [] [] (fun t u w=>⟨e_dat (c:=cV) (l:=([v522]:List Vec)) (ps:=(pI v522.1::pI v522.2.1::pI v522.2.2::[])) (qs:=(pI v522.1::pI v522.2.1::pI v522.2.2::[])) (by rw [e523];rfl) rfl rfl rfl (pimps (fun _ _ _ h=>h) <| pimps (fun _ _ _ h=>h) <| pimps (fun _ _ _ h=>h) <| zf) rfl,trivial⟩) ?_
   obtain ⟨v524,e524⟩:=LX (o++v523)
   have s525:(o.length+v523.length)*3≤1099511627776:=by (rw [← e523];simp only [List.length_singleton];have dh503:=LD e502 h503;have dh505:=LD e504 h505;omega)
   refine rx [] [pG cV v524] [] (fun t u w=>⟨qz (c:=cV) zW (fun _=>rfl) rfl (by rw [e524];rfl) rfl s525,trivial⟩) ?_
   intro v526 e526
   refine nxl (v526,v522,v524) ?_ ?_ rfl
   all_goals (have dh503:=LD e502 h503;have dh505:=LD e504 h505;have q1:n506=k:=(by omega);have q2:n512=k:=(by omega);rw [q1] at s509;rw [q2] at s515;have q3:x513=x507:=Option.some.inj (s515.symm.trans s509);rw [zpz s509 (by omega)] at hs;have x5:v522=stepT at_ x507:=(by rw [← e522,← e521,← e520,← e519,← e518,← e517,← e516,← e510,q3];rfl);have hlt:=(List.getElem?_eq_some_iff.1 s509).1;have x3:v526=((k+1:Nat):Int):=(by rw [← e526,hi,wri (by omega)];omega);have x4:v524=o++[v522]:=(by rw [← e524,← e523]);rw [← x5] at hs)
   ·show ((l.length:Int) - v526).toNat<((l.length:Int) - i).toNat
    omega
   ·exact ⟨k+1,x3,by omega,by omega,by rw [x4,List.length_append,hol];rfl,by rw [x4,List.append_assoc];exact hs⟩
  ·
   have hq:((o)=o2)∧True:=by
    refine ⟨?_,trivial⟩
    (have dh503:=LD e502 h503;have dh505:=LE e504 h505;rw [zij (by omega)] at hs;exact (List.append_nil o).symm.trans hs)
   obtain ⟨q0,-⟩:=hq
   rw [← q0]
   rfl
 ·
  have hq:((o)=o2)∧True:=by
   refine ⟨?_,trivial⟩
   (have dh503:=LE e502 h503;rw [zij (by omega)] at hs;exact (List.append_nil o).symm.trans hs)
  obtain ⟨q0,-⟩:=hq
  rw [← q0]
  rfl
def zhL:Tr:=.s [(0,.raw [(1000003,.glt 26 3 [.h 0,.h 1,.h 2] 0)] 0),(0,.lp coA_S 0 0),(0,.gh ⟨8,.gl 3 26 3 1::[4].map (fun s=>.sl s (.o (.c (.gr 3)))),[4].map (fun s=>.sl s 4),[3]⟩ 1)] (.z (.ret false (4) []))
theorem zmm {w0:World} (p:Vec) (l:List (Int×Int)) (r:List Vec) (hr:cornP p l=r) (hB:∀t∈l,0≤t.1) (hl:l.length<9223372036854775808):Fun (KN w0) Tryz.prog 33 [.o (.g [pI p.1,pI p.2.1,pI p.2.2]),.o (.c (pLs cTn l))] (.o (.c (pLs cV r))):=by
 refine tfn w0 33 ⟨[.o (.g [0,1,2]),3],[],[],0,0⟩ ⟨4,[.ls 2 cTn kTn l,sI p.2.2,sI p.2.1,sI p.1],[],[]⟩ zhL (by kernel_rfl) ?_
 refine rx [] [pG cV ([p]:List Vec)] [] (fun t u w=>⟨e_glt (c:=cV) (l:=([p]:List Vec)) rfl rfl (fun _ _ _ h=>h) rfl zW (by decide),trivial⟩) ?_
 obtain ⟨o2,hO_coA⟩:∃(o2:(List Vec)),(([p]:List Vec))++cornL p (l.take 6)=o2:=⟨_,rfl⟩
 refine rx [] [pG cV o2] [] (zqR p l  o2  hB hl hO_coA) ?_
 refine rx [.ls 3 cV kV o2] [] [] (fun t u w _=>qQ (c:=cV) (fun _=>rfl) (by decide) zW rfl rfl) ?_
 intro hc
 refine Fun.fin (r:=.o (.c (pLs cV o2))) (zc (hc)) (fun v W D h=>?_)
 have r0:r=o2:=by
  exact hr.symm.trans hO_coA
 rw [r0];exact h
end Go.Proofs.YteimplkdcjapdaaGreatDoor
