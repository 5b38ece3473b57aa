/-
  Merged: PnK.
-/
import Derived.Test.YteimplkdcjapdaaGreatDoorPqW
import Derived.Test.YteimplkdcjapdaaGreatDoorPqV
set_option linter.unusedSimpArgs false
set_option linter.unusedVariables false
set_option maxRecDepth 100000
set_option synthInstance.maxSize 2000
set_option synthInstance.maxHeartbeats 400000
namespace Go.Proofs.YteimplkdcjapdaaGreatDoor
open Go.RowKit
def zs9:List Atom:=[.sl 4 (.o (.c (.k (.bool false)))),.sl 5 (.o (.c (.k (.bool true)))),.sl 6 10,.sl 8 25,.sl 58 10,.sl 59 23,.sl 60 24,.bx 0 26 [.h 4,.h 5,.h 6]]
def pnA_S:LoopS:=⟨10,zs9.map (tnA (jf (hZ 24 [kI 0,kI 0])) (kf []) (kf [])),(.x 0),(drs [6] zs9).map (tnA (jf (hZ 25 [24])) (kf []) (kf []))⟩
def pnA_t:Tr:=.s [(0,.fb 12 false),(0,.fb 14 false),(0,.fb 16 true),(0,.fb 22 false),(6000,.bin .lss 3 24 23)] (.b 26 (.s [(6001,.ia 36 45 11 10 24),(6002,.ld 45 11 27),(6007,.call 41 [.o (.g [28,29,30,31,32,33,34,35,36,37,38])] (.o .c)),(6008,.bin .add 3 25 39),(6010,.bin .add 3 24 (kI 1))] (.z (.nx (hZ 24 [41,40]) [] []))) (.z (.xt (.x 0) (hZ 24 [25]) [] [])))
theorem zub {w0:World} (l:(List (List Int))) (start:Vec) (v1:Vec) (v2:(List (List Int))) (v4:(List Sb)) (v6:(List Int)) (v7:(List Mov)) (v8:Int) (v11:Bool) (v13:Int) (v15:Bool) (v17:Int) (v18:Bool) (n20:Nat) (x21:Mov) (v24:Bool) (v26:Int) (h12:v11=false) (s16:v15=false) (h19:v18=true) (s25:v24=false) (o:Int) (hlen:(v7.length:Int)=v26) (hb:v7.length≤40) (hO:sumM v7=o):LpH (KN w0) Tryz.prog 8 ⟨ntOf Tryz.prog 8,[],[]⟩ pnA_S 0 ⟨25,[sI o,sI v26,sB v24,sI x21.2.1.2.2,sI x21.2.1.2.1,sI x21.2.1.1,.p ((kM x21).drop 1),.p (kM x21),sB v18,sI v17,sB v15,sI v13,sB v11,sI v8,.ls 11 cM kM v7,.ls 1 cI kIc v6,.ls 3 cSb kSb v4,.ls 1 cLI kLI v2,sI v1.2.2,sI v1.2.1,sI v1.1,sI start.2.2,sI start.2.1,sI start.1,.ls 1 cLI kLI l],[],[]⟩:=by
 refine zi _ ⟨zs9,pnA_S,(26,0,0),(25,0,0),6000⟩ (T:=Int×Int) (fun t=>⟨26,[sI t.2,sI t.1,sI v26,sB v24,sI x21.2.1.2.2,sI x21.2.1.2.1,sI x21.2.1.1,.p ((kM x21).drop 1),.p (kM x21),sB v18,sI v17,sB v15,sI v13,sB v11,sI v8,.ls 11 cM kM v7,.ls 1 cI kIc v6,.ls 3 cSb kSb v4,.ls 1 cLI kLI v2,sI v1.2.2,sI v1.2.1,sI v1.1,sI start.2.2,sI start.2.1,sI start.1,.ls 1 cLI kLI l],[],[]⟩) (fun (i,n)=>∃k:Nat,i=(k:Int)∧k≤v7.length∧0≤n∧n≤48*(k:Int)∧n+sumM (v7.drop k)=o) (fun (i,n)=>((v7.length:Int) - i).toNat) ((0:Int),(0:Int)) (hZ 24 [kI 0,kI 0]) [] [] pnA_t mixed ⟨0,rfl,Nat.zero_le _,by decide,by decide,by rw [List.drop_zero,Int.zero_add];exact hO⟩ rfl rfl rfl rfl (fun _=>rfl) rfl rfl (by kernel_rfl) ?_
 rintro ⟨i,n⟩ hJ
 dsimp only at hJ ⊢
 obtain ⟨k,hi,hk,hn0,hn1,hs⟩:=hJ
 refine ai h12 ?_
 refine ai s16 ?_
 refine ai h19 ?_
 refine ai s25 ?_
 intro v501 e501
 refine ai (fun h502=>?_) fun h502=>?_
 ·
  have dh502:=LD e501 h502
  refine ai (by (have hlt:k<v7.length:=(by omega);exact ⟨k,_,hi,List.getElem?_eq_getElem hlt⟩)) fun n503 x504 s505 s506=>?_
  obtain ⟨v507,e507⟩:=LX (stepM x504)
  have s508:goodM x504:=by trivial
  refine cx (.o (.c (sI v507))) (zh1 x504 v507 e507 s508) rfl ?_
  intro v509 e509 v510 e510
  refine nxl (v510,v509) ?_ ?_ rfl
  all_goals (have hkn:n503=k:=(by omega);subst hkn;have hlt:n503<v7.length:=(List.getElem?_eq_some_iff.1 s506).1;have hd:=zoj s506;have hst:=zsT x504;have x3:v510=((n503+1:Nat):Int):=(by rw [← e510,hi,wri (by omega)];omega);have x4:v509=n+v507:=(by rw [← e509,wri (by omega)]))
  ·show ((v7.length:Int) - v510).toNat<((v7.length:Int) - i).toNat
   omega
  ·exact ⟨n503+1,x3,by omega,by omega,by omega,by omega⟩
 ·
  have dh502:=LE e501 h502
  have hq:((n)=o)∧True:=by
   refine ⟨?_,trivial⟩
   (have hkl:k=v7.length:=(by omega);rw [hkl,List.drop_length,sumM] at hs;omega)
  obtain ⟨q0,-⟩:=hq
  rw [← q0]
  rfl
def ztb:List Atom:=[.sl 4 (.o (.c (.k (.bool false)))),.sl 5 (.o (.c (.k (.bool true)))),.sl 6 10,.sl 8 19,.sl 58 10,.sl 59 17,.sl 60 18,.bx 0 26 [.h 4,.h 5,.h 6]]
def pnE_S:LoopS:=⟨10,ztb.map (tnA (jf (hZ 18 [kI 0,kI 0])) (kf []) (kf [])),(.x 0),(drs [6] ztb).map (tnA (jf (hZ 19 [18])) (kf []) (kf []))⟩
def pnE_t:Tr:=.s [(0,.fb 12 false),(0,.fb 14 false),(0,.fb 16 false),(7000,.bin .lss 3 18 17)] (.b 20 (.s [(7001,.ia 36 45 11 10 18),(7002,.ld 45 11 21),(7007,.call 41 [.o (.g [22,23,24,25,26,27,28,29,30,31,32])] (.o .c)),(7008,.bin .add 3 19 33),(7010,.bin .add 3 18 (kI 1))] (.z (.nx (hZ 18 [35,34]) [] []))) (.z (.xt (.x 0) (hZ 18 [19]) [] [])))
theorem zud {w0:World} (l:(List (List Int))) (start:Vec) (v1:Vec) (v2:(List (List Int))) (v4:(List Sb)) (v6:(List Int)) (v7:(List Mov)) (v8:Int) (v11:Bool) (v13:Int) (v15:Bool) (v17:Int) (v18:Bool) (v20:Int) (h12:v11=false) (s16:v15=false) (h19:v18=false) (o:Int) (hlen:(v7.length:Int)=v20) (hb:v7.length≤40) (hO:sumM v7=o):LpH (KN w0) Tryz.prog 8 ⟨ntOf Tryz.prog 8,[],[]⟩ pnE_S 0 ⟨19,[sI o,sI v20,sB v18,sI v17,sB v15,sI v13,sB v11,sI v8,.ls 11 cM kM v7,.ls 1 cI kIc v6,.ls 3 cSb kSb v4,.ls 1 cLI kLI v2,sI v1.2.2,sI v1.2.1,sI v1.1,sI start.2.2,sI start.2.1,sI start.1,.ls 1 cLI kLI l],[],[]⟩:=by
 refine zi _ ⟨ztb,pnE_S,(20,0,0),(19,0,0),7000⟩ (T:=Int×Int) (fun t=>⟨20,[sI t.2,sI t.1,sI v20,sB v18,sI v17,sB v15,sI v13,sB v11,sI v8,.ls 11 cM kM v7,.ls 1 cI kIc v6,.ls 3 cSb kSb v4,.ls 1 cLI kLI v2,sI v1.2.2,sI v1.2.1,sI v1.1,sI start.2.2,sI start.2.1,sI start.1,.ls 1 cLI kLI l],[],[]⟩) (fun (i,n)=>∃k:Nat,i=(k:Int)∧k≤v7.length∧0≤n∧n≤48*(k:Int)∧n+sumM (v7.drop k)=o) (fun (i,n)=>((v7.length:Int) - i).toNat) ((0:Int),(0:Int)) (hZ 18 [kI 0,kI 0]) [] [] pnE_t mixed ⟨0,rfl,Nat.zero_le _,by decide,by decide,by rw [List.drop_zero,Int.zero_add];exact hO⟩ rfl rfl rfl rfl (fun _=>rfl) rfl rfl (by kernel_rfl) ?_
 rintro ⟨i,n⟩ hJ
 dsimp only at hJ ⊢
 obtain ⟨k,hi,hk,hn0,hn1,hs⟩:=hJ
 refine ai h12 ?_
 refine ai s16 ?_
 refine ai h19 ?_
 intro v501 e501
 refine ai (fun h502=>?_) fun h502=>?_
 ·
  have dh502:=LD e501 h502
  refine ai (by (have hlt:k<v7.length:=(by omega);exact ⟨k,_,hi,List.getElem?_eq_getElem hlt⟩)) fun n503 x504 s505 s506=>?_
  obtain ⟨v507,e507⟩:=LX (stepM x504)
  have s508:goodM x504:=by trivial
  refine cx (.o (.c (sI v507))) (zh1 x504 v507 e507 s508) rfl ?_
  intro v509 e509 v510 e510
  refine nxl (v510,v509) ?_ ?_ rfl
  all_goals (have hkn:n503=k:=(by omega);subst hkn;have hlt:n503<v7.length:=(List.getElem?_eq_some_iff.1 s506).1;have hd:=zoj s506;have hst:=zsT x504;have x3:v510=((n503+1:Nat):Int):=(by rw [← e510,hi,wri (by omega)];omega);have x4:v509=n+v507:=(by rw [← e509,wri (by omega)]))
  ·show ((v7.length:Int) - v510).toNat<((v7.length:Int) - i).toNat
   omega
  ·exact ⟨n503+1,x3,by omega,by omega,by omega,by omega⟩
 ·
  have dh502:=LE e501 h502
  have hq:((n)=o)∧True:=by
   refine ⟨?_,trivial⟩
   (have hkl:k=v7.length:=(by omega);rw [hkl,List.drop_length,sumM] at hs;omega)
  obtain ⟨q0,-⟩:=hq
  rw [← q0]
  rfl
def zta:List Atom:=[.sl 5 (.o (.c (.k (.bool true)))),.sl 6 10,.sl 8 24,.sl 11 30,.sl 12 31,.sl 13 29,.bx 0 26 [.h 4,.h 5,.h 6]]
def pnB_S:LoopS:=⟨18,zta.map (tnA (jf (hZ 29 [kI 1,kI 0,kI 0])) (kf []) (kf [])),(.x 2),(drs [5] zta).map (tnA (jf (hZ 30 [29,30])) (kf []) (kf []))⟩
def pnB_t:Tr:=.s [(0,.fb 12 false),(0,.fb 14 false),(0,.fb 16 true),(0,.fb 22 false),(0,.fb 26 false),(0,.fb 28 false),(8002,.bin .leq 3 29 24)] (.b 32 (.s [(8005,.call 26 [10,29] (.t [.c,.c,.c])),(8014,.un .not 35),(0,.fb 36 false),(8018,.ln 36 3 10),(8019,.bin .geq 3 33 37),(0,.fb 38 false),(8024,.bin .eql 3 33 30)] (.b 39 (.s [(8028,.bin .add 3 31 (kI 1)),(8029,.bin .eql 3 34 40),(0,.fb 41 true),(8057,.bin .add 3 29 (kI 1))] (.z (.nx (hZ 29 [42,33,34]) [] []))) (.s [(8034,.bin .add 3 30 (kI 1)),(8035,.bin .eql 3 33 40),(0,.fb 41 true),(8038,.bin .eql 3 34 (kI 1)),(0,.fb 42 true),(8044,.ia 36 45 11 10 30),(8045,.ld 45 11 43),(8046,.call 41 [.o (.g [44,45,46,47,48,49,50,51,52,53,54])] (.o .c)),(8047,.bin .eql 3 31 55),(8050,.un .not 56),(0,.fb 57 false),(8057,.bin .add 3 29 (kI 1))] (.z (.nx (hZ 29 [58,33,34]) [] []))))) (.z (.xt (.x 2) (hZ 29 [30,31]) [] [])))
theorem zuc {w0:World} (l:(List (List Int))) (start:Vec) (v1:Vec) (v2:(List (List Int))) (v4:(List Sb)) (v6:(List Int)) (v7:(List Mov)) (v8:Int) (v11:Bool) (v13:Int) (v15:Bool) (v17:Int) (v18:Bool) (n20:Nat) (x21:Mov) (v24:Bool) (v26:Int) (o:Int) (v27:Int) (v30:Bool) (v32:Int) (v33:Bool) (h12:v11=false) (s16:v15=false) (h19:v18=true) (s25:v24=false) (s31:v30=false) (s34:v33=false) (ok:Int) (oj:Int) (hD:PnD v1 v7) (hO:sumM v7=o) (hne:v7≠[]) (hE:findL 0 v7 o=(ok,oj,true)):LpH (KN w0) Tryz.prog 8 ⟨ntOf Tryz.prog 8,[],[]⟩ pnB_S 1 ⟨31,[sI oj,sI ok,sB v33,sI v32,sB v30,sI v27,sI o,sI v26,sB v24,sI x21.2.1.2.2,sI x21.2.1.2.1,sI x21.2.1.1,.p ((kM x21).drop 1),.p (kM x21),sB v18,sI v17,sB v15,sI v13,sB v11,sI v8,.ls 11 cM kM v7,.ls 1 cI kIc v6,.ls 3 cSb kSb v4,.ls 1 cLI kLI v2,sI v1.2.2,sI v1.2.1,sI v1.1,sI start.2.2,sI start.2.1,sI start.1,.ls 1 cLI kLI l],[],[]⟩:=by
 refine zi _ ⟨zta,pnB_S,(32,0,0),(31,0,0),8000⟩ (T:=Int×Int×Int) (fun t=>⟨32,[sI t.2.2,sI t.2.1,sI t.1,sB v33,sI v32,sB v30,sI v27,sI o,sI v26,sB v24,sI x21.2.1.2.2,sI x21.2.1.2.1,sI x21.2.1.1,.p ((kM x21).drop 1),.p (kM x21),sB v18,sI v17,sB v15,sI v13,sB v11,sI v8,.ls 11 cM kM v7,.ls 1 cI kIc v6,.ls 3 cSb kSb v4,.ls 1 cLI kLI v2,sI v1.2.2,sI v1.2.1,sI v1.1,sI start.2.2,sI start.2.1,sI start.1,.ls 1 cLI kLI l],[],[]⟩) (fun (st,k,j)=>1≤st∧st≤o+1∧findL 0 v7 (st - 1)=(k,j,true)) (fun (st,k,j)=>(o+1 - st).toNat) ((1:Int),(0:Int),(0:Int)) (hZ 29 [kI 1,kI 0,kI 0]) [] [] pnB_t mixed ⟨by omega,by have:=pn_bd hD;omega,ztC hne⟩ rfl rfl rfl rfl (fun _=>rfl) rfl rfl (by kernel_rfl) ?_
 rintro ⟨st,k,j⟩ hJ
 dsimp only at hJ ⊢
 obtain ⟨h1_,h2_,hf⟩:=hJ
 refine ai h12 ?_
 refine ai s16 ?_
 refine ai h19 ?_
 refine ai s25 ?_
 refine ai s31 ?_
 refine ai s34 ?_
 intro v501 e501
 refine ai (fun h502=>?_) fun h502=>?_
 ·
  obtain ⟨v503,e503⟩:=LX ((findP v7 st).1)
  obtain ⟨v504,e504⟩:=LX ((findP v7 st).2.1)
  obtain ⟨v505,e505⟩:=LX ((findP v7 st).2.2)
  have s506:v7.length<9223372036854775808:=by (have:=hD.ln;omega)
  have s507:∀x∈v7,goodM x:=by exact fun _ _=>trivial
  have dh502:=LD e501 h502
  have s508:st<9223372036854775808:=by (have:=pn_bd hD;omega)
  refine cx (.t [.c (sI v503),.c (sI v504),.c (sB v505)]) (zmy v7 st v503 v504 v505 e503 e504 e505 s506 s507 s508) rfl ?_
  intro v509 e509
  have s510:v509=false:=by (obtain ⟨c0,c1,c2,c3,c4,c5,c6,c7⟩:=zsM hD h1_ (by omega) hf e503 e504 e505;rw [← e509,c0];rfl)
  refine ai s510 ?_
  intro v511 e511 v512 e512
  have s513:v512=false:=by (obtain ⟨c0,c1,c2,c3,c4,c5,c6,c7⟩:=zsM hD h1_ (by omega) hf e503 e504 e505;rw [← e512,← e511];exact decide_eq_false (by omega))
  refine ai s513 ?_
  intro v514 e514
  refine ai (fun h515=>?_) fun h515=>?_
  ·
   intro v516 e516 v517 e517
   have dh515:=eq_of_beq (e514.trans h515)
   have s518:v517=true:=by (obtain ⟨c0,c1,c2,c3,c4,c5,c6,c7⟩:=zsM hD h1_ (by omega) hf e503 e504 e505;have hq:=beq_iff_eq.1 (e514.trans h515);rw [← e517,← e516,wri (by omega)];exact beq_iff_eq.2 (by rcases c7 with c7 | ⟨c7,-⟩<;>omega))
   refine ai s518 ?_
   intro v519 e519
   refine nxl (v519,v503,v504) ?_ ?_ rfl
   all_goals (obtain ⟨c0,c1,c2,c3,c4,c5,c6,c7⟩:=zsM hD h1_ (by omega) hf e503 e504 e505;have hb_:=pn_bd hD;have x3:v519=st+1:=(by rw [← e519,wri (by omega)]))
   ·show (o+1 - v519).toNat<(o+1 - st).toNat
    omega
   ·exact ⟨by omega,by omega,by rw [x3,show st+1 - 1=st by omega];exact c6⟩
  ·
   intro v516 e516 v517 e517
   have dh515:=ne_of_beq_false (e514.trans h515)
   have s518:v517=true:=by (obtain ⟨c0,c1,c2,c3,c4,c5,c6,c7⟩:=zsM hD h1_ (by omega) hf e503 e504 e505;have hq:=beq_eq_false_iff_ne.1 (e514.trans h515);obtain ⟨d1,d2,i,d3,m,d4,d5⟩:=c7.resolve_left (fun c=>hq c.1);rw [← e517,← e516,wri (by omega)];exact beq_iff_eq.2 d1)
   refine ai s518 ?_
   intro v519 e519
   have s520:v519=true:=by (obtain ⟨c0,c1,c2,c3,c4,c5,c6,c7⟩:=zsM hD h1_ (by omega) hf e503 e504 e505;have hq:=beq_eq_false_iff_ne.1 (e514.trans h515);obtain ⟨d1,d2,i,d3,m,d4,d5⟩:=c7.resolve_left (fun c=>hq c.1);rw [← e519];exact beq_iff_eq.2 d2)
   refine ai s520 ?_
   refine ai (by (obtain ⟨c0,c1,c2,c3,c4,c5,c6,c7⟩:=zsM hD h1_ (by omega) hf e503 e504 e505;have hq:=beq_eq_false_iff_ne.1 (e514.trans h515);rcases c7 with c7 | ⟨-,-,i,c8,m,c9,-⟩;(exact absurd c7.1 hq);exact ⟨i,m,c8,c9⟩)) fun n521 x522 s523 s524=>?_
   obtain ⟨v525,e525⟩:=LX (stepM x522)
   have s526:goodM x522:=by trivial
   refine cx (.o (.c (sI v525))) (zh1 x522 v525 e525 s526) rfl ?_
   intro v527 e527 v528 e528
   have s529:v528=false:=by (obtain ⟨c0,c1,c2,c3,c4,c5,c6,c7⟩:=zsM hD h1_ (by omega) hf e503 e504 e505;have hq:=beq_eq_false_iff_ne.1 (e514.trans h515);obtain ⟨d1,d2,i,d3,m,d4,d5⟩:=c7.resolve_left (fun c=>hq c.1);have hn:i=n521:=(by omega);rw [hn,s524] at d4;injection d4 with d4;rw [← e528,← e527,← e525,d4,d5];exact congrArg Bool.not (beq_self_eq_true _))
   refine ai s529 ?_
   intro v530 e530
   refine nxl (v530,v503,v504) ?_ ?_ rfl
   all_goals (obtain ⟨c0,c1,c2,c3,c4,c5,c6,c7⟩:=zsM hD h1_ (by omega) hf e503 e504 e505;have hb_:=pn_bd hD;have x3:v530=st+1:=(by rw [← e530,wri (by omega)]))
   ·show (o+1 - v530).toNat<(o+1 - st).toNat
    omega
   ·exact ⟨by omega,by omega,by rw [x3,show st+1 - 1=st by omega];exact c6⟩
 ·
  have dh502:=LE e501 h502
  have hq:((k)=ok)∧((j)=oj)∧True:=by
   refine ⟨?_,?_,trivial⟩
   all_goals (have hz:st - 1=o:=(by omega);rw [hz,hE] at hf;injection hf with f1 f2;injection f2 with f2 f3;first | (exact ⟨f1.symm,f2.symm,trivial⟩) | (exact f1.symm) | (exact f2.symm))
  obtain ⟨q0,q1,-⟩:=hq
  rw [← q0,← q1]
  rfl
def zsQ:Tr:=.s [(0,.raw [(1000002,.call ⟨9,[],[],.o (.c (.k (.bool true))),[]⟩)] 0),(5,.call 15 [.o (.g [1,2,3])] (.o (.g 3))),(8,.call 11 [0,LF (kI 9)] (.o .c)),(9,.call 10 [7] (.o .c)),(0,.raw [(1000010,.dat 3 1 [.k (.int .i64 1)] 9)] 1),(12,.call 16 [8,9,.o (.g [4,5,6])] (.t [.c,.c])),(19,.bin .neq 37 11 (kI 0))] (.b 12 (.s [(23,.ln 36 3 10),(24,.bin .eql 3 13 (kI 0))] (.z (.ret false (14) []))) (.s [(21,.call 22 [10] (.o .c)),(22,.bin .neq 37 13 (kI 0)),(0,.fb 14 false),(25,.ln 36 3 10),(26,.bin .gtr 3 15 (kI 0))] (.b 16 (.s [(29,.ia 36 45 11 10 (kI 0)),(30,.fa 45 1 1 2 17),(31,.ld 26 3 18),(0,.raw [(1000033,.bin .neq 26 (.o (.g [19,20,21])) (.o (.g [4,5,6])) 22)] 1),(0,.fb 22 false),(38,.ln 36 3 10),(0,.lp pnA_S 0 1),(1041,.call 24 [10] (.o .c)),(1043,.bin .neq 3 25 24),(0,.fb 26 false),(1046,.ln 36 3 10),(1047,.bin .eql 3 27 (kI 0)),(0,.fb 28 false),(0,.lp pnB_S 1 2),(2054,.ia 36 45 11 10 29),(2055,.ld 45 11 31),(2057,.call 42 [.o (.g [32,33,34,35,36,37,38,39,40,41,42]),30] (.t [.g 3,.c])),(2066,.bin .add 3 24 (kI 1)),(2067,.call 26 [10,47] (.t [.c,.c,.c])),(0,.fb 46 true),(2081,.un .not 50),(0,.fb 51 true),(2087,.ln 36 3 10),(2088,.bin .sub 3 52 (kI 1)),(2089,.ia 36 45 11 10 53),(2090,.fa 45 2 4 2 54),(2091,.ld 26 3 55),(0,.raw [(1002092,.bin .eql 26 (.o (.g [43,44,45])) (.o (.g [56,57,58])) 59)] 1)] (.z (.ret false (59) []))) (.s [(38,.ln 36 3 10),(0,.lp pnE_S 0 1),(1041,.call 24 [10] (.o .c)),(1043,.bin .neq 3 19 18),(0,.fb 20 false),(1046,.ln 36 3 10),(1047,.bin .eql 3 21 (kI 0)),(0,.fb 22 true),(1052,.bin .eql 3 18 (kI 0))] (.z (.ret false (23) []))))))
theorem zsU {w0:World} (hL:LibP w0) (l:List (List Int)) (start:Vec):Fun (KN w0) Tryz.prog 8 [.o (.c (pLs cLI l)),.o (.g [pI start.1,pI start.2.1,pI start.2.2])] (.o (.c (pB true))):=by
 refine tfn w0 8 ⟨[0,.o (.g [1,2,3])],[],[],0,0⟩ ⟨4,[sI start.2.2,sI start.2.1,sI start.1,.ls 1 cLI kLI l],[],[]⟩ zsQ (by kernel_rfl) ?_
 refine rx [] [] [] (fun t u w=>⟨zE (zoy hL),trivial⟩) ?_
 obtain ⟨v1,e1⟩:=LX (ztJ start)
 refine cx (.o (.g [sI v1.1,sI v1.2.1,sI v1.2.2])) (zt8 start v1 e1) rfl ?_
 obtain ⟨v2,e2⟩:=LX (zlq l (9:Int))
 have s3:0≤(9:Int)∧(9:Int)≤100:=by omega
 refine cx (.o (.c (.ls 1 cLI kLI v2))) (zq4 l (9:Int) v2 e2 s3) rfl ?_
 obtain ⟨v4,e4⟩:=LX (progX v2)
 have s5:∀x∈v2,x.length≤100:=by (rw [← e2];exact znD)
 refine cx (.o (.c (.ls 3 cSb kSb v4))) (zsu v2 v4 e4 s5) rfl ?_
 obtain ⟨v6,e6⟩:=LX (([(1:Int)]:List Int))
 refine rx [.ls 1 cI kIc v6] [] [] (fun t u w=>⟨e_dat (c:=cI) (l:=([(1:Int)]:List Int)) (ps:=(pV (.int .i64 1)::[])) (qs:=(pI (1:Int)::[])) (by rw [e6];rfl) rfl rfl rfl (pimps (fun _ _ _ h=>h) <| ze) rfl,trivial⟩) ?_
 obtain ⟨v7,e7⟩:=LX ((runP v4 v6 v1).1)
 obtain ⟨v8,e8⟩:=LX ((runP v4 v6 v1).2)
 have s9:zD v4=0:=by (rw [← e4];exact ztH.1)
 have s10:SbW v4:=by (rw [← e4];exact ztH.2)
 refine cx (.t [.c (.ls 11 cM kM v7),.c (sI v8)]) (zdA hL v4 v6 v1 v7 v8 e7 e8 s9 s10) rfl ?_
 intro v11 e11
 refine ai (fun h12=>?_) fun h12=>?_
 ·
  intro v13 e13 v14 e14
  intro hc
  refine Fun.fin (r:=.o (.c (pB v14))) (zc (hc)) (fun v W D h=>?_)
  (have q:true=v14:=(by have hz:=(zs6 (l:=v4) (args:=v6) (start:=v1) e7 e8).2 (bne_iff_ne.1 (e11.trans h12));rw [← e14,← e13,hz];rfl);rw [q];exact h)
 ·
  obtain ⟨v13,e13⟩:=LX (chkP v7)
  have s14:v7.length<9223372036854775808:=by (have:=(zsK (l:=v4) (args:=v6) (st:=v1) e7 e8 (bne_eq_false_iff_eq.1 (e11.trans h12))).ln;omega)
  refine cx (.o (.c (sI v13))) (zpL v7 v13 e13 s14) rfl ?_
  intro v15 e15
  have s16:v15=false:=by (rw [← e15,← e13,(zsK (l:=v4) (args:=v6) (st:=v1) e7 e8 (bne_eq_false_iff_eq.1 (e11.trans h12))).ck];rfl)
  refine ai s16 ?_
  intro v17 e17 v18 e18
  refine ai (fun h19=>?_) fun h19=>?_
  ·
   refine ai (by (have hp:=zsZ (pn_ne e17 (LD e18 h19));exact ⟨0,_,rfl,List.getElem?_eq_getElem hp⟩)) fun n20 x21 s22 s23=>?_
   obtain ⟨v24,e24⟩:=LX (!decide (x21.2.1=v1))
   refine rx [sB v24] [] [] (fun t u w=>⟨e_eqV (x:=x21.2.1) (y:=v1) (neg:=true) ⟨(za rfl),(za rfl),(za rfl),trivial⟩ ⟨(za rfl),(za rfl),(za rfl),trivial⟩ (za (by rw [e24];rfl)),trivial⟩) ?_
   have s25:v24=false:=by (rw [← e24,(zsK (l:=v4) (args:=v6) (st:=v1) e7 e8 (bne_eq_false_iff_eq.1 (e11.trans h12))).fs s23 s22];simp)
   refine ai s25 ?_
   intro v26 e26
   obtain ⟨o,hO_pnA⟩:∃(o:Int),sumM v7=o:=⟨_,rfl⟩
   refine rx [sI o] [] [] (zub l start v1 v2 v4 v6 v7 v8 v11 v13 v15 v17 v18 n20 x21 v24 v26 h12 s16 h19 s25 o  e26 (zsK (l:=v4) (args:=v6) (st:=v1) e7 e8 (bne_eq_false_iff_eq.1 (e11.trans h12))).ln hO_pnA) ?_
   obtain ⟨v27,e27⟩:=LX (zjl v7)
   have s28:v7.length<9223372036854775808:=by (have:=(zsK (l:=v4) (args:=v6) (st:=v1) e7 e8 (bne_eq_false_iff_eq.1 (e11.trans h12))).ln;omega)
   have s29:∀x∈v7,goodM x:=by exact fun _ _=>trivial
   refine cx (.o (.c (sI v27))) (zou v7 v27 e27 s28 s29) rfl ?_
   intro v30 e30
   have s31:v30=false:=by (rw [← e30,← e27,ztV (zsK (l:=v4) (args:=v6) (st:=v1) e7 e8 (bne_eq_false_iff_eq.1 (e11.trans h12))),hO_pnA];exact bne_self_eq_false _)
   refine ai s31 ?_
   intro v32 e32 v33 e33
   have s34:v33=false:=by (have hp:=zsZ (pn_ne e17 (LD e18 h19));rw [← e33,← e32];exact beq_eq_false_iff_ne.2 (by omega))
   refine ai s34 ?_
   obtain ⟨ok,oj,hO_pnB⟩:∃(ok:Int) (oj:Int),findL 0 v7 o=(ok,oj,true):=(pn_ex (zsK (l:=v4) (args:=v6) (st:=v1) e7 e8 (bne_eq_false_iff_eq.1 (e11.trans h12))) hO_pnA (pn_ne e17 (LD e18 h19)))
   refine rx [sI ok,sI oj] [] [] (zuc l start v1 v2 v4 v6 v7 v8 v11 v13 v15 v17 v18 n20 x21 v24 v26 o v27 v30 v32 v33 h12 s16 h19 s25 s31 s34 ok oj  (zsK (l:=v4) (args:=v6) (st:=v1) e7 e8 (bne_eq_false_iff_eq.1 (e11.trans h12))) hO_pnA (pn_ne e17 (LD e18 h19)) hO_pnB) ?_
   refine ai (by (obtain ⟨m,h1,h2,-,-⟩:=(ztn (zsK (l:=v4) (args:=v6) (st:=v1) e7 e8 (bne_eq_false_iff_eq.1 (e11.trans h12))) (pn_ne e17 (LD e18 h19)) (by rw [hO_pnA];exact hO_pnB));exact ⟨_,m,h1,h2⟩)) fun n35 x36 s37 s38=>?_
   obtain ⟨v39,e39⟩:=LX ((atP x36 oj).1)
   obtain ⟨v40,e40⟩:=LX ((atP x36 oj).2)
   have s41:oj<9223372036854775807:=by (have:=ztB (by have:=pn_bd (zsK (l:=v4) (args:=v6) (st:=v1) e7 e8 (bne_eq_false_iff_eq.1 (e11.trans h12)));omega) hO_pnB;omega)
   refine cx (.t [.g [sI v39.1,sI v39.2.1,sI v39.2.2],.c (sB v40)]) (t_at x36 oj v39 v40 e39 e40 s41) rfl ?_
   intro v42 e42
   obtain ⟨v43,e43⟩:=LX ((findP v7 v42).1)
   obtain ⟨v44,e44⟩:=LX ((findP v7 v42).2.1)
   obtain ⟨v45,e45⟩:=LX ((findP v7 v42).2.2)
   have s46:v7.length<9223372036854775808:=by (have:=(zsK (l:=v4) (args:=v6) (st:=v1) e7 e8 (bne_eq_false_iff_eq.1 (e11.trans h12))).ln;omega)
   have s47:∀x∈v7,goodM x:=by exact fun _ _=>trivial
   have s48:v42<9223372036854775808:=by (have:=pn_bd (zsK (l:=v4) (args:=v6) (st:=v1) e7 e8 (bne_eq_false_iff_eq.1 (e11.trans h12)));rw [← e42,wri (by omega)];omega)
   refine cx (.t [.c (sI v43),.c (sI v44),.c (sB v45)]) (zmy v7 v42 v43 v44 v45 e43 e44 e45 s46 s47 s48) rfl ?_
   have s49:v40=true:=by (obtain ⟨m,h1,h2,h3,h4⟩:=(ztn (zsK (l:=v4) (args:=v6) (st:=v1) e7 e8 (bne_eq_false_iff_eq.1 (e11.trans h12))) (pn_ne e17 (LD e18 h19)) (by rw [hO_pnA];exact hO_pnB));have q:=ztc h1 h2 s37 s38;rw [← e40,q,h4])
   refine ai s49 ?_
   intro v50 e50
   have s51:v50=true:=by (have hb_:=pn_bd (zsK (l:=v4) (args:=v6) (st:=v1) e7 e8 (bne_eq_false_iff_eq.1 (e11.trans h12)));rw [← e50,← e45,← e42,wri (by omega),ztF (zsK (l:=v4) (args:=v6) (st:=v1) e7 e8 (bne_eq_false_iff_eq.1 (e11.trans h12))) (by omega),zs5 (by omega)];rfl)
   refine ai s51 ?_
   intro v52 e52 v53 e53
   refine ai (by (obtain ⟨m,h1,h2,-,-⟩:=(ztn (zsK (l:=v4) (args:=v6) (st:=v1) e7 e8 (bne_eq_false_iff_eq.1 (e11.trans h12))) (pn_ne e17 (LD e18 h19)) (by rw [hO_pnA];exact hO_pnB));have hp:=zsZ (pn_ne e17 (LD e18 h19));have hl:=(zsK (l:=v4) (args:=v6) (st:=v1) e7 e8 (bne_eq_false_iff_eq.1 (e11.trans h12))).ln;exact ⟨_,m,by rw [← e53,← e52,wri (by omega)];omega,h2⟩)) fun n54 x55 s56 s57=>?_
   obtain ⟨v58,e58⟩:=LX (decide (v39=x55.2.2.1))
   refine rx [sB v58] [] [] (fun t u w=>⟨e_eqV (x:=v39) (y:=x55.2.2.1) (neg:=false) ⟨(za rfl),(za rfl),(za rfl),trivial⟩ ⟨(za rfl),(za rfl),(za rfl),trivial⟩ (za (by rw [e58];rfl)),trivial⟩) ?_
   intro hc
   refine Fun.fin (r:=.o (.c (pB v58))) (zc (hc)) (fun v W D h=>?_)
   (have q:true=v58:=(by obtain ⟨m,h1,h2,h3,h4⟩:=(ztn (zsK (l:=v4) (args:=v6) (st:=v1) e7 e8 (bne_eq_false_iff_eq.1 (e11.trans h12))) (pn_ne e17 (LD e18 h19)) (by rw [hO_pnA];exact hO_pnB));have hp:=zsZ (pn_ne e17 (LD e18 h19));have hl:=(zsK (l:=v4) (args:=v6) (st:=v1) e7 e8 (bne_eq_false_iff_eq.1 (e11.trans h12))).ln;have q1:=ztc h1 h2 s37 s38;have q2:=ztc (k:=v53) (by rw [← e53,← e52,wri (by omega)];omega) h2 s56 s57;rw [← e58,← e39,q1,h4,q2];exact (decide_eq_true rfl).symm);rw [q];exact h)
  ·
   intro v20 e20
   obtain ⟨o,hO_pnE⟩:∃(o:Int),sumM v7=o:=⟨_,rfl⟩
   refine rx [sI o] [] [] (zud l start v1 v2 v4 v6 v7 v8 v11 v13 v15 v17 v18 v20 h12 s16 h19 o  e20 (zsK (l:=v4) (args:=v6) (st:=v1) e7 e8 (bne_eq_false_iff_eq.1 (e11.trans h12))).ln hO_pnE) ?_
   obtain ⟨v21,e21⟩:=LX (zjl v7)
   have s22:v7.length<9223372036854775808:=by (have:=(zsK (l:=v4) (args:=v6) (st:=v1) e7 e8 (bne_eq_false_iff_eq.1 (e11.trans h12))).ln;omega)
   have s23:∀x∈v7,goodM x:=by exact fun _ _=>trivial
   refine cx (.o (.c (sI v21))) (zou v7 v21 e21 s22 s23) rfl ?_
   intro v24 e24
   have s25:v24=false:=by (rw [← e24,← e21,ztV (zsK (l:=v4) (args:=v6) (st:=v1) e7 e8 (bne_eq_false_iff_eq.1 (e11.trans h12))),hO_pnE];exact bne_self_eq_false _)
   refine ai s25 ?_
   intro v26 e26 v27 e27
   have s28:v27=true:=by (have hd:=LE e18 h19;rw [← e17] at hd;rw [← e27,← e26];exact beq_iff_eq.2 (by omega))
   refine ai s28 ?_
   intro v29 e29
   intro hc
   refine Fun.fin (r:=.o (.c (pB v29))) (zc (hc)) (fun v W D h=>?_)
   (have q:true=v29:=(by have hd:=LE e18 h19;rw [← e17] at hd;have hz:=List.length_eq_zero_iff.1 (show v7.length=0 by omega);have ho:=hO_pnE;rw [hz,sumM] at ho;rw [← e29,← ho];rfl);rw [q];exact h)
end Go.Proofs.YteimplkdcjapdaaGreatDoor
