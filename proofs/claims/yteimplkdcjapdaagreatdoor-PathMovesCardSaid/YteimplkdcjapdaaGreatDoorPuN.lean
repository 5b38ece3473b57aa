/-
  Merged: PtF.
-/
import Derived.Test.YteimplkdcjapdaaGreatDoorPuM
set_option linter.unusedSimpArgs false
set_option linter.unusedVariables false
set_option maxRecDepth 100000
namespace Go.Proofs.YteimplkdcjapdaaGreatDoor
open Go.RowKit
def prevO (l:List Mov):Nat→Option Vec
 | 0=>none
 | k+1=>(l[k]?).map (·.2.2.1)
theorem q6 {l:List Mov} {k:Nat} {x:Mov} (h:l[k]?=some x):ordL (prevO l k) (l.drop k)=if chkM x≠0 then chkM x else if (prevO l k).all (fun q=>decide (x.2.1=q)) then ordL (prevO l (k+1)) (l.drop (k+1)) else 7:=by
 have e:prevO l (k+1)=some x.2.2.1:=by simp [prevO,h]
 obtain ⟨hk,rfl⟩:=List.getElem?_eq_some_iff.1 h
 rw [List.drop_eq_getElem_cons hk,ordL,e]
theorem zfY {l:List Mov} {k:Nat} (h:k=0):prevO l k=none:=by subst h;rfl
theorem zcP {l:List Mov} {k m:Nat} {x:Mov} (h:l[m]?=some x) (hk:k=m+1):prevO l k=some x.2.2.1:=by subst hk;simp [prevO,h]
theorem zqr {l:List Mov} {k:Nat} (h:k=l.length):ordL (prevO l k) (l.drop k)=0:=by subst h;rw [List.drop_length,ordL]
def zaR:List Atom:=[.sl 0 0,.sl 9 0,.sl 10 3,.sl 11 4]
def zcw:LoopS:=⟨4,zaR.map (tnA (jf (hZ 4 [kI 0])) (kf []) (kf [])),(.x 0),(drs [3] zaR)⟩
def zjZ:Tr:=.s [(0,.fb 2 false),(5000,.bin .lss 3 4 3)] (.b 5 (.s [(5002,.ia 36 45 11 0 4),(5003,.ld 45 11 6),(5008,.call 66 [.o (.g [7,8,9,10,11,12,13,14,15,16,17])] (.o .c)),(5011,.bin .neq 37 18 (kI 0))] (.b 19 (.z .no) (.s [(5013,.bin .gtr 3 4 (kI 0))] (.b 20 (.s [(5019,.bin .sub 3 4 (kI 1)),(5020,.ia 36 45 11 0 21),(5021,.fa 45 2 4 2 22),(5022,.ld 26 3 23),(0,.raw [(1005023,.bin .neq 26 (.o (.g [8,9,10])) (.o (.g [24,25,26])) 27)] 1)] (.b 27 (.z .no) (.s [(5025,.bin .add 3 4 (kI 1))] (.z (.nx (hZ 4 [28]) [] []))))) (.s [(5025,.bin .add 3 4 (kI 1))] (.z (.nx (hZ 4 [21]) [] []))))))) (.z (.xt (.x 0) (hZ 4 []) [] [])))
theorem zhU {w0:World} (l:(List Mov)) (v1:Int) (v2:Bool) (v4:Int) (h3:v2=false) (hb:l.length<9223372036854775808) (hO:ordL (prevO l 0) (l.drop 0)=0) (hlen:(l.length:Int)=v4):LpH (KN w0) Tryz.prog 22 ⟨ntOf Tryz.prog 22,[],[]⟩ zcw 0 ⟨4,[sI v4,sB v2,sI v1,.ls 11 cM kM l],[],[]⟩:=by
 refine zi _ ⟨zaR,zcw,(5,0,0),(4,0,0),5000⟩ (T:=Int) (fun t=>⟨5,[sI t,sI v4,sB v2,sI v1,.ls 11 cM kM l],[],[]⟩) (fun i=>∃k:Nat,i=(k:Int)∧k≤l.length∧ordL (prevO l k) (l.drop k)=0) (fun i=>((l.length:Int) - i).toNat) (0:Int) (hZ 4 [kI 0]) [] [] zjZ mixed ⟨0,rfl,Nat.zero_le _,hO⟩ rfl rfl rfl rfl (fun _=>rfl) rfl rfl (by kernel_rfl) ?_
 intro i hJ
 obtain ⟨k,hi,hk,hs⟩:=hJ
 refine ai h3 ?_
 intro v501 e501
 refine ai (fun h502=>?_) fun h502=>?_
 ·
  refine ai (by (have dh502:=LD e501 h502;have hz:=hlen;have hlt:k<l.length:=(by omega);exact ⟨k,_,hi,List.getElem?_eq_getElem hlt⟩)) fun n503 x504 s505 s506=>?_
  obtain ⟨v507,e507⟩:=LX (chkM x504)
  refine cx (.o (.c (sI v507))) (t_chk x504 v507 e507) rfl ?_
  intro v508 e508
  refine ai (fun h509=>?_) fun h509=>?_
  ·
   exfalso
   (have dh502:=LD e501 h502;have dh509:=bne_iff_ne.1 (e508.trans h509);have hz:=hlen;have hkn:n503=k:=(by omega);subst hkn;have hlt:n503<l.length:=(List.getElem?_eq_some_iff.1 s506).1;have hd:=q6 s506;rw [hs] at hd;exfalso;first | omega | (split at hd<;>omega))
  ·
   intro v510 e510
   refine ai (fun h511=>?_) fun h511=>?_
   ·
    intro v512 e512
    refine ai (by (have dh502:=LD e501 h502;have dh509:=bne_eq_false_iff_eq.1 (e508.trans h509);have dh511:=LD e510 h511;have hz:=hlen;have hw:v512=i - 1:=(by rw [← e512,wri (by omega)]);have hlt:k - 1<l.length:=(by omega);exact ⟨k - 1,_,by omega,List.getElem?_eq_getElem hlt⟩)) fun n513 x514 s515 s516=>?_
    obtain ⟨v517,e517⟩:=LX (!decide (x504.2.1=x514.2.2.1))
    refine rx [sB v517] [] [] (fun t u w=>⟨e_eqV (x:=x504.2.1) (y:=x514.2.2.1) (neg:=true) ⟨(za rfl),(za rfl),(za rfl),trivial⟩ ⟨(za rfl),(za rfl),(za rfl),trivial⟩ (za (by rw [e517];rfl)),trivial⟩) ?_
    refine ai (fun h518=>?_) fun h518=>?_
    ·
     exfalso
     (have dh502:=LD e501 h502;have dh509:=bne_eq_false_iff_eq.1 (e508.trans h509);have dh511:=LD e510 h511;have dh518:=(Bool.not_eq_true' _).mp (e517.trans h518);have hz:=hlen;have hkn:n503=k:=(by omega);subst hkn;have hlt:n503<l.length:=(List.getElem?_eq_some_iff.1 s506).1;have hd:=q6 s506;rw [hs] at hd;have hq:v512=i - 1:=(by rw [← e512,wri (by omega)]);have hp:=zcP (k:=n503) s516 (by omega);rw [hp] at hd;simp only [Option.all_some,dh518,if_true,Bool.false_eq_true,if_false] at hd;exfalso;first | omega | (split at hd<;>omega))
    ·
     intro v519 e519
     refine nxl v519 ?_ ?_ rfl
     all_goals (have dh502:=LD e501 h502;have dh509:=bne_eq_false_iff_eq.1 (e508.trans h509);have dh511:=LD e510 h511;have dh518:=(Bool.not_eq_false' _).mp (e517.trans h518);have hz:=hlen;have hkn:n503=k:=(by omega);subst hkn;have hlt:n503<l.length:=(List.getElem?_eq_some_iff.1 s506).1;have hd:=q6 s506;rw [hs] at hd;have hq:v512=i - 1:=(by rw [← e512,wri (by omega)]);have hp:=zcP (k:=n503) s516 (by omega);rw [hp] at hd;simp only [Option.all_some,dh518,if_true,Bool.false_eq_true,if_false] at hd;have x3:v519=((n503+1:Nat):Int):=(by rw [← e519,hi,wri (by omega)];omega);have hn:ordL (prevO l (n503+1)) (l.drop (n503+1))=0:=(by first | omega | (split at hd<;>omega)))
     ·show ((l.length:Int) - v519).toNat<((l.length:Int) - i).toNat
      omega
     ·exact ⟨n503+1,x3,by omega,hn⟩
   ·
    intro v512 e512
    refine nxl v512 ?_ ?_ rfl
    all_goals (have dh502:=LD e501 h502;have dh509:=bne_eq_false_iff_eq.1 (e508.trans h509);have dh511:=LE e510 h511;have hz:=hlen;have hkn:n503=k:=(by omega);subst hkn;have hlt:n503<l.length:=(List.getElem?_eq_some_iff.1 s506).1;have hd:=q6 s506;rw [hs] at hd;have hp:=zfY (l:=l) (k:=n503) (by omega);rw [hp] at hd;simp only [Option.all_none,if_true] at hd;have x3:v512=((n503+1:Nat):Int):=(by rw [← e512,hi,wri (by omega)];omega);have hn:ordL (prevO l (n503+1)) (l.drop (n503+1))=0:=(by first | omega | (split at hd<;>omega)))
    ·show ((l.length:Int) - v512).toNat<((l.length:Int) - i).toNat
     omega
    ·exact ⟨n503+1,x3,by omega,hn⟩
 ·
  rfl
def zaS:List Atom:=[.sl 0 0,.sl 9 0,.sl 10 3,.sl 11 4]
def zcx:LoopS:=⟨4,zaS.map (tnA (jf (hZ 4 [kI 0])) (kf []) (kf [])),.r,(drs [3] zaS)++[.sl 2 4]⟩
def zj0:Tr:=.s [(0,.fb 2 false),(5000,.bin .lss 3 4 3)] (.b 5 (.s [(5002,.ia 36 45 11 0 4),(5003,.ld 45 11 6),(5008,.call 66 [.o (.g [7,8,9,10,11,12,13,14,15,16,17])] (.o .c)),(5011,.bin .neq 37 18 (kI 0))] (.b 19 (.z (.xt .r (hZ 4 [18]) [] [])) (.s [(5013,.bin .gtr 3 4 (kI 0))] (.b 20 (.s [(5019,.bin .sub 3 4 (kI 1)),(5020,.ia 36 45 11 0 21),(5021,.fa 45 2 4 2 22),(5022,.ld 26 3 23),(0,.raw [(1005023,.bin .neq 26 (.o (.g [8,9,10])) (.o (.g [24,25,26])) 27)] 1)] (.b 27 (.z (.xt .r (hZ 4 [kI 7]) [] [])) (.s [(5025,.bin .add 3 4 (kI 1))] (.z (.nx (hZ 4 [28]) [] []))))) (.s [(5025,.bin .add 3 4 (kI 1))] (.z (.nx (hZ 4 [21]) [] []))))))) (.z .no))
theorem zhV {w0:World} (l:(List Mov)) (v1:Int) (v2:Bool) (v4:Int) (h3:v2=false) (o:Int) (hb:l.length<9223372036854775808) (hO:ordL (prevO l 0) (l.drop 0)=o) (ho:o≠0) (hlen:(l.length:Int)=v4):LpH (KN w0) Tryz.prog 22 ⟨ntOf Tryz.prog 22,[],[]⟩ zcx 0 ⟨5,[sI o,sI v4,sB v2,sI v1,.ls 11 cM kM l],[],[]⟩:=by
 refine zi _ ⟨zaS,zcx,(5,0,0),(5,0,0),5000⟩ (T:=Int) (fun t=>⟨5,[sI t,sI v4,sB v2,sI v1,.ls 11 cM kM l],[],[]⟩) (fun i=>∃k:Nat,i=(k:Int)∧k≤l.length∧ordL (prevO l k) (l.drop k)=o) (fun i=>((l.length:Int) - i).toNat) (0:Int) (hZ 4 [kI 0]) [] [] zj0 mixed ⟨0,rfl,Nat.zero_le _,hO⟩ rfl rfl rfl rfl (fun _=>rfl) rfl rfl (by kernel_rfl) ?_
 intro i hJ
 obtain ⟨k,hi,hk,hs⟩:=hJ
 refine ai h3 ?_
 intro v501 e501
 refine ai (fun h502=>?_) fun h502=>?_
 ·
  refine ai (by (have dh502:=LD e501 h502;have hz:=hlen;have hlt:k<l.length:=(by omega);exact ⟨k,_,hi,List.getElem?_eq_getElem hlt⟩)) fun n503 x504 s505 s506=>?_
  obtain ⟨v507,e507⟩:=LX (chkM x504)
  refine cx (.o (.c (sI v507))) (t_chk x504 v507 e507) rfl ?_
  intro v508 e508
  refine ai (fun h509=>?_) fun h509=>?_
  ·
   have hq:((v507)=o)∧True:=by
    refine ⟨?_,trivial⟩
    (have dh502:=LD e501 h502;have dh509:=bne_iff_ne.1 (e508.trans h509);have hz:=hlen;have hkn:n503=k:=(by omega);subst hkn;have hlt:n503<l.length:=(List.getElem?_eq_some_iff.1 s506).1;have hd:=q6 s506;rw [hs] at hd;first | omega | (split at hd<;>omega))
   obtain ⟨q0,-⟩:=hq
   rw [← q0]
   rfl
  ·
   intro v510 e510
   refine ai (fun h511=>?_) fun h511=>?_
   ·
    intro v512 e512
    refine ai (by (have dh502:=LD e501 h502;have dh509:=bne_eq_false_iff_eq.1 (e508.trans h509);have dh511:=LD e510 h511;have hz:=hlen;have hw:v512=i - 1:=(by rw [← e512,wri (by omega)]);have hlt:k - 1<l.length:=(by omega);exact ⟨k - 1,_,by omega,List.getElem?_eq_getElem hlt⟩)) fun n513 x514 s515 s516=>?_
    obtain ⟨v517,e517⟩:=LX (!decide (x504.2.1=x514.2.2.1))
    refine rx [sB v517] [] [] (fun t u w=>⟨e_eqV (x:=x504.2.1) (y:=x514.2.2.1) (neg:=true) ⟨(za rfl),(za rfl),(za rfl),trivial⟩ ⟨(za rfl),(za rfl),(za rfl),trivial⟩ (za (by rw [e517];rfl)),trivial⟩) ?_
    refine ai (fun h518=>?_) fun h518=>?_
    ·
     have hq:(((7:Int))=o)∧True:=by
      refine ⟨?_,trivial⟩
      (have dh502:=LD e501 h502;have dh509:=bne_eq_false_iff_eq.1 (e508.trans h509);have dh511:=LD e510 h511;have dh518:=(Bool.not_eq_true' _).mp (e517.trans h518);have hz:=hlen;have hkn:n503=k:=(by omega);subst hkn;have hlt:n503<l.length:=(List.getElem?_eq_some_iff.1 s506).1;have hd:=q6 s506;rw [hs] at hd;have hq:v512=i - 1:=(by rw [← e512,wri (by omega)]);have hp:=zcP (k:=n503) s516 (by omega);rw [hp] at hd;simp only [Option.all_some,dh518,if_true,Bool.false_eq_true,if_false] at hd;first | omega | (split at hd<;>omega))
     obtain ⟨q0,-⟩:=hq
     rw [← q0]
     rfl
    ·
     intro v519 e519
     refine nxl v519 ?_ ?_ rfl
     all_goals (have dh502:=LD e501 h502;have dh509:=bne_eq_false_iff_eq.1 (e508.trans h509);have dh511:=LD e510 h511;have dh518:=(Bool.not_eq_false' _).mp (e517.trans h518);have hz:=hlen;have hkn:n503=k:=(by omega);subst hkn;have hlt:n503<l.length:=(List.getElem?_eq_some_iff.1 s506).1;have hd:=q6 s506;rw [hs] at hd;have hq:v512=i - 1:=(by rw [← e512,wri (by omega)]);have hp:=zcP (k:=n503) s516 (by omega);rw [hp] at hd;simp only [Option.all_some,dh518,if_true,Bool.false_eq_true,if_false] at hd;have x3:v519=((n503+1:Nat):Int):=(by rw [← e519,hi,wri (by omega)];omega);have hn:ordL (prevO l (n503+1)) (l.drop (n503+1))=o:=(by first | omega | (split at hd<;>omega)))
     ·show ((l.length:Int) - v519).toNat<((l.length:Int) - i).toNat
      omega
     ·exact ⟨n503+1,x3,by omega,hn⟩
   ·
    intro v512 e512
    refine nxl v512 ?_ ?_ rfl
    all_goals (have dh502:=LD e501 h502;have dh509:=bne_eq_false_iff_eq.1 (e508.trans h509);have dh511:=LE e510 h511;have hz:=hlen;have hkn:n503=k:=(by omega);subst hkn;have hlt:n503<l.length:=(List.getElem?_eq_some_iff.1 s506).1;have hd:=q6 s506;rw [hs] at hd;have hp:=zfY (l:=l) (k:=n503) (by omega);rw [hp] at hd;simp only [Option.all_none,if_true] at hd;have x3:v512=((n503+1:Nat):Int):=(by rw [← e512,hi,wri (by omega)];omega);have hn:ordL (prevO l (n503+1)) (l.drop (n503+1))=o:=(by first | omega | (split at hd<;>omega)))
    ·show ((l.length:Int) - v512).toNat<((l.length:Int) - i).toNat
     omega
    ·exact ⟨n503+1,x3,by omega,hn⟩
 ·
  exfalso
  (have dh502:=LE e501 h502;have hz:=hlen;have hkl:k=l.length:=(by omega);rw [hkl] at hs;exact absurd (hs.symm.trans (zqr rfl)) ho)
def zop:Tr:=.s [(2,.ln 36 3 0),(3,.bin .gtr 3 1 (kI 40))] (.b 2 (.z (.ret false (LF (kI 2)) [])) (.s [(5,.ln 36 3 0)] (.r (.s [(0,.lp zcw 0 0)] (.z (.ret false (LF (kI 0)) []))) (.s [(0,.lp zcx 0 1)] (.z (.ret false (4) []))))))
theorem zpL {w0:World} (l:List Mov) (r:Int) (hr:chkP l=r) (hb_:l.length<9223372036854775808):Fun (KN w0) Tryz.prog 22 [.o (.c (pLs cM l))] (.o (.c (pI r))):=by
 refine tfn w0 22 ⟨[0],[],[],0,0⟩ ⟨1,[.ls 11 cM kM l],[],[]⟩ zop (by kernel_rfl) ?_
 intro v1 e1 v2 e2
 refine ai (fun h3=>?_) fun h3=>?_
 ·
  intro hc
  refine Fun.fin (r:=.o (.c (pV (.int .i64 2)))) (zc (hc)) (fun v W D h=>?_)
  have r0:r=(2:Int):=by
   (have dh3:=LD e2 h3;rw [← hr];unfold chkP;rw [if_pos (by omega)])
  rw [r0];exact h
 ·
  intro v4 e4
  by_cases c4:ordL (prevO l 0) (l.drop 0)=0
  ·
   refine Or.inl ?_
   refine rx [] [] [] (zhU l v1 v2 v4 h3   hb_ c4  e4) ?_
   intro hc
   refine Fun.fin (r:=.o (.c (pV (.int .i64 0)))) (zc (hc)) (fun v W D h=>?_)
   have r0:r=(0:Int):=by
    (have dh3:=LE e2 h3;rw [← hr];unfold chkP;rw [if_neg (by omega)];exact c4)
   rw [r0];exact h
  ·
   refine Or.inr ?_
   obtain ⟨o,hO_t_pchk_B⟩:∃(o:Int),ordL (prevO l 0) (l.drop 0)=o∧o≠0:=⟨_,rfl,by simpa using c4⟩
   refine rx [sI o] [] [] (zhV l v1 v2 v4 h3 o  hb_ hO_t_pchk_B.1 hO_t_pchk_B.2  e4) ?_
   intro hc
   refine Fun.fin (r:=.o (.c (pI o))) (zc (hc)) (fun v W D h=>?_)
   have r0:r=o:=by
    (have dh3:=LE e2 h3;rw [← hr];unfold chkP;rw [if_neg (by omega)];exact hO_t_pchk_B.1)
   rw [r0];exact h
end Go.Proofs.YteimplkdcjapdaaGreatDoor
