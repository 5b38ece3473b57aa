/-
  Merged: PtZn, PtZo, PtZp, PtZq, PlA.
-/
import Derived.Test.YteimplkdcjapdaaGreatDoorPuT
set_option linter.unusedSimpArgs false
set_option linter.unusedVariables false
set_option maxRecDepth 100000
namespace Go.Proofs.YteimplkdcjapdaaGreatDoor
open Go.RowKit
def zax (w0:World) (su:List (List UInt8×Sb)) (n:Nat):Prop:=∀(l:List Stm) (args:List Int) (i:Int) (s:Rn),n≤7→i=7 - (n:Int)→l.length≤1000000→(∀x∈l,StOk x)→Gd s →
 (∀s',zB su n l args s=.ok s'→RF w0 56 [.o (.c (pLs cSt l)),.o (.c (pLs cI args)),.o (.c (pI i))] su s s' (.t []))∧∀k,zB su n l args s=.error k→RP w0 56 [.o (.c (pLs cSt l)),.o (.c (pLs cI args)),.o (.c (pI i))] su s k
theorem zbw {w0:World} {n:Nat} (su:List (List UInt8×Sb)) (l:List Stm) (args:List Int) (i:Int) (s s':Rn) (H:zax w0 su n) (hn:n≤7) (hi:i=7 - (n:Int)) (hl:l.length≤1000000) (hx:∀x∈l,StOk x) (hg:Gd s) (h:zB su n l args s=.ok s'):RF w0 56 [.o (.c (pLs cSt l)),.o (.c (pLs cI args)),.o (.c (pI i))] su s s' (.t []):=(H l args i s hn hi hl hx hg).1 s' h
theorem zbx {w0:World} {n:Nat} (su:List (List UInt8×Sb)) (l:List Stm) (args:List Int) (i:Int) (s:Rn) (k:Int) (H:zax w0 su n) (hn:n≤7) (hi:i=7 - (n:Int)) (hl:l.length≤1000000) (hx:∀x∈l,StOk x) (hg:Gd s) (h:zB su n l args s=.error k):RP w0 56 [.o (.c (pLs cSt l)),.o (.c (pLs cI args)),.o (.c (pI i))] su s k:=(H l args i s hn hi hl hx hg).2 k h
def zgH:List Atom:=[.sl 0 (.o (.c (.p 900 0))),.sl 2 6,.sl 3 7,.sl 12 5,.sl 13 8,.sl 14 9,.bx 900 108 [.h 0,.h 10,.h 11,.h 12,.gr 901,.h 13,.po 902],.gl 901 45 11 1,.hp [902,903,904] [] 1]
def caA_S:LoopS:=⟨1,zgH.map (tnA (jf (hZ 9 [kI 0,1,2,3,4])) (kf [0,0]) (kf [0,0])),(.x 0),(drs [5] zgH).map (tnA (jf (hZ 10 [9,10,11,12])) (kf [0,1]) (kf [0,1]))⟩
def caA_t:Tr:=.s [(6000,.bin .lss 3 9 8)] (.b 14 (.s [(6001,.ia 54 62 4 5 9),(6002,.ld 62 4 15),(6009,.bin .geq 3 13 (kI 1000))] (.b 20 (.s [(0,.raw [(1006010,.pan ⟨55,[20,.o (.c (.k (.int .i64 9)))],[],21,[]⟩)] 1)] (.z .no)) (.s [(6010,.call 55 [20,LF (kI 9)] (.t [])),(6015,.bin .add 3 13 (kI 1)),(6021,.bin .neq 3 16 (kI 5))] (.b 22 (.s [(0,.raw [(1006022,.call ⟨81,[],[],.o (.g [.k (.nilFunc),.q 109 [],.q 110 [],.q 111 [],.q 112 []]),[]⟩)] 0)] (.r (.s [(0,.raw [(1006025,.op (.ix 136) [.o (.g [.k (.nilFunc),.q 109 [],.q 110 [],.q 111 [],.q 112 []]),16] [] (LF (.q 109 [])))] 0)] (.r (.s [(6031,.call 82 [19,6] (.o .c))] (.r (.s [(0,.raw [(1006032,.call ⟨109,[LF (.p 900 0),.o (.g [16,17,18,19]),23],rnA 0 10 11 12 21 1 1,.t [],rnA 0 24 25 26 27 2 2⟩)] 4),(6033,.bin .add 3 9 (kI 1))] (.z (.nx (hZ 9 [28,24,25,26,27]) [0,2] [0,2]))) (.s [(0,.raw [(1006032,.pan ⟨109,[LF (.p 900 0),.o (.g [16,17,18,19]),23],rnA 0 10 11 12 21 1 1,24,[]⟩)] 1)] (.z .no)))) (.s [(0,.raw [(1006031,.pan ⟨82,[19,6],[],23,[]⟩)] 1)] (.z .no)))) (.r (.s [(0,.raw [(1006025,.op (.ix 136) [.o (.g [.k (.nilFunc),.q 109 [],.q 110 [],.q 111 [],.q 112 []]),16] [] (LF (.q 110 [])))] 0)] (.r (.s [(6031,.call 82 [19,6] (.o .c))] (.r (.s [(0,.raw [(1006032,.call ⟨110,[LF (.p 900 0),.o (.g [16,17,18,19]),23],rnA 0 10 11 12 21 1 1,.t [],rnA 0 24 25 26 27 2 2⟩)] 4),(6033,.bin .add 3 9 (kI 1))] (.z (.nx (hZ 9 [28,24,25,26,27]) [0,2] [0,2]))) (.s [(0,.raw [(1006032,.pan ⟨110,[LF (.p 900 0),.o (.g [16,17,18,19]),23],rnA 0 10 11 12 21 1 1,24,[]⟩)] 1)] (.z .no)))) (.s [(0,.raw [(1006031,.pan ⟨82,[19,6],[],23,[]⟩)] 1)] (.z .no)))) (.r (.s [(0,.raw [(1006025,.op (.ix 136) [.o (.g [.k (.nilFunc),.q 109 [],.q 110 [],.q 111 [],.q 112 []]),16] [] (LF (.q 111 [])))] 0)] (.r (.s [(6031,.call 82 [19,6] (.o .c))] (.r (.s [(0,.raw [(1006032,.call ⟨111,[LF (.p 900 0),.o (.g [16,17,18,19]),23],rnA 0 10 11 12 21 1 1,.t [],rnA 0 24 25 26 27 2 2⟩)] 4),(6033,.bin .add 3 9 (kI 1))] (.z (.nx (hZ 9 [28,24,25,26,27]) [0,2] [0,2]))) (.s [(0,.raw [(1006032,.pan ⟨111,[LF (.p 900 0),.o (.g [16,17,18,19]),23],rnA 0 10 11 12 21 1 1,24,[]⟩)] 1)] (.z .no)))) (.s [(0,.raw [(1006031,.pan ⟨82,[19,6],[],23,[]⟩)] 1)] (.z .no)))) (.s [(0,.raw [(1006025,.op (.ix 136) [.o (.g [.k (.nilFunc),.q 109 [],.q 110 [],.q 111 [],.q 112 []]),16] [] (LF (.q 112 [])))] 0)] (.r (.s [(6031,.call 82 [19,6] (.o .c))] (.r (.s [(0,.raw [(1006032,.call ⟨112,[LF (.p 900 0),.o (.g [16,17,18,19]),23],rnA 0 10 11 12 21 1 1,.t [],rnA 0 24 25 26 27 2 2⟩)] 4),(6033,.bin .add 3 9 (kI 1))] (.z (.nx (hZ 9 [28,24,25,26,27]) [0,2] [0,2]))) (.s [(0,.raw [(1006032,.pan ⟨112,[LF (.p 900 0),.o (.g [16,17,18,19]),23],rnA 0 10 11 12 21 1 1,24,[]⟩)] 1)] (.z .no)))) (.s [(0,.raw [(1006031,.pan ⟨82,[19,6],[],23,[]⟩)] 1)] (.z .no)))))))) (.r (.s [(0,.raw [(1006028,.op (.lk 105 true) [0,18] [] (.t [.g [23,24,25],.c (.k (.bool true))]))] 3),(6042,.ln 58 3 19),(6043,.bin .neq 3 24 26)] (.b 27 (.s [(0,.raw [(1006049,.pan ⟨55,[.o (.c (.k (.bool true))),.o (.c (.k (.int .i64 18)))],[],28,[]⟩)] 1)] (.z .no)) (.s [(6047,.bin .geq 3 7 (kI 6))] (.b 28 (.s [(0,.raw [(1006049,.pan ⟨55,[28,.o (.c (.k (.int .i64 18)))],[],29,[]⟩)] 1)] (.z .no)) (.s [(6049,.call 55 [28,LF (kI 18)] (.t []))] (.r (.s [(6056,.call 82 [19,6] (.o .c)),(6058,.bin .add 3 7 (kI 1))] (.r (.s [(0,.raw [(1006059,.call ⟨56,[LF (.p 900 0),25,29,30],rnA 0 10 11 12 21 1 1,.t [],rnA 0 31 32 33 34 2 2⟩)] 4),(6060,.bin .add 3 9 (kI 1))] (.z (.nx (hZ 9 [35,31,32,33,34]) [0,2] [0,2]))) (.s [(0,.raw [(1006059,.pan ⟨56,[LF (.p 900 0),25,29,30],rnA 0 10 11 12 21 1 1,31,[]⟩)] 1)] (.z .no)))) (.s [(0,.raw [(1006056,.pan ⟨82,[19,6],[],29,[]⟩)] 1),(6058,.bin .add 3 7 (kI 1))] (.z .no)))))))) (.s [(0,.raw [(1006028,.op (.lk 105 true) [0,18] [] (.t [.g [.k (.string ⟨#[]⟩),.k (.int .i64 0),.k (.slice none 0 0)],.c (.k (.bool false))]))] 0),(0,.raw [(1006049,.pan ⟨55,[.o (.c (.k (.bool true))),.o (.c (.k (.int .i64 18)))],[],23,[]⟩)] 1)] (.z .no))))))) (.z (.xt (.x 0) (hZ 9 [10,11,12,13]) [0,1] [0,1])))
theorem zoU {w0:World} (su:(List (List UInt8×Sb))) (pt:Vec) (mv:(List Mov)) (dn:Int) (c:(Option Str)) (l:(List Stm)) (args:(List Int)) (cl:Int) (n:Nat) (v1:Int) (pt2:Vec) (dn2:Int) (mv2:(List Mov)) (c2:(Option Str)) (hv:(l.length:Int)=v1) (hl:l.length≤1000000) (hx:∀x∈l,StOk x) (hsu:SuOk su) (IH:n≠0→zax w0 su n) (hn:n≤6) (hcl:cl=6 - (n:Int)) (hg:Gd (pt,mv,dn,c)) (hO:zB su (n+1) l args (pt,mv,dn,c)=.ok (pt2,mv2,dn2,c2)):LpH (KN w0) Tryz.prog 56 ⟨ntOf Tryz.prog 56,[900,901,902,903,904],[901,902,903,904]⟩ caA_S 0 ⟨13,[sI dn2,sI pt2.2.2,sI pt2.2.1,sI pt2.1,sI v1,sI cl,.ls 1 cI kIc args,.ls 4 cSt kSt l,sI dn,sI pt.2.2,sI pt.2.1,sI pt.1,.q (pSu su)],[pG cM mv,pG cM mv2],[oStr w0 c,oStr w0 c2]⟩:=by
 refine zi _ ⟨zgH,caA_S,(14,2,2),(13,2,2),6000⟩ (T:=Int×Vec×Int×(List Mov)×(Option Str)) (fun t=>⟨14,[sI t.2.2.1,sI t.2.1.2.2,sI t.2.1.2.1,sI t.2.1.1,sI t.1,sI v1,sI cl,.ls 1 cI kIc args,.ls 4 cSt kSt l,sI dn,sI pt.2.2,sI pt.2.1,sI pt.1,.q (pSu su)],[pG cM mv,pG cM t.2.2.2.1],[oStr w0 c,oStr w0 t.2.2.2.2]⟩) (fun (i,pt_,dn_,mv_,c_)=>∃k:Nat,i=(k:Int)∧k≤l.length∧Gd (pt_,mv_,dn_,c_)∧(l.drop k).foldlM (stepC su n args) (pt_,mv_,dn_,c_)=.ok (pt2,mv2,dn2,c2)) (fun (i,pt_,dn_,mv_,c_)=>(v1 - i).toNat) ((0:Int),pt,dn,mv,c) (hZ 9 [kI 0,1,2,3,4]) [0,0] [0,0] caA_t mixed ⟨0,rfl,Nat.zero_le _,hg,hO⟩ rfl rfl rfl rfl (fun _=>rfl) rfl rfl (by kernel_rfl) ?_
 rintro ⟨i,pt_,dn_,mv_,c_⟩ hJ
 dsimp only at hJ ⊢
 obtain ⟨k,hi,hk,hg,hs⟩:=hJ
 intro v501 e501
 refine ai (fun h502=>?_) fun h502=>?_
 ·
  refine ai (by (have dh502:=LD e501 h502;have hlt:k<l.length:=(by omega);exact ⟨k,_,hi,List.getElem?_eq_getElem hlt⟩)) fun n503 x504 s505 s506=>?_
  intro v507 e507
  refine ai (fun h508=>?_) fun h508=>?_
  ·
   have s509:(v507 && ((9:Int) != 0))=true:=by (rw [h508];rfl)
   refine rx [.v (.iface 37 (.int .i64 (9:Int)))] [] [] (fun t u w=>⟨b_con (pan:=true) (zh v507 (9:Int) (9:Int) rfl s509),trivial⟩) ?_
   exfalso
   (have dh502:=LD e501 h502;have dh508:=LD e507 h508;have hkn:n503=k:=(by omega);subst hkn;have hlt:=(List.getElem?_eq_some_iff.1 s506).1;have hst:stepC su n args (pt_,mv_,dn_,c_) x504=.error 9:=zga dh508;rw [zt s506,hst] at hs;dsimp only at hs;cases hs)
  ·
   have s509:(v507 && ((9:Int) != 0))=false:=by (rw [h508];rfl)
   refine cx (.t []) (zv v507 (9:Int) s509) rfl ?_
   intro v510 e510 v511 e511
   refine ai (fun h512=>?_) fun h512=>?_
   ·
    refine rx [] [] [] (fun t u w=>⟨zef,trivial⟩) ?_
    cases h513:decide (x504.1=1) with
    | true =>
     refine Or.inl ?_
     have s514:x504.1=(1:Int):=by (have dh502:=LD e501 h502;have dh508:=LE e507 h508;have dh512:=bne_iff_ne.1 (e511.trans h512);have dh513:=of_decide_eq_true h513;have q:=(hx _ (List.mem_of_getElem? s506)).1.kind;omega)
     refine rx [] [] [] (fun t u w=>⟨e_ixH (E:=135) (n:=5) (i:=1) (ls:=[.k (.nilFunc),.q 109 [],.q 110 [],.q 111 [],.q 112 []]) (by kernel_rfl) (by kernel_rfl) (by kernel_rfl) (za rfl) s514 rfl (by decide),trivial⟩) ?_
     have s515:x504.2.2.2.length≤1000000:=by exact (hx _ (List.mem_of_getElem? s506)).2.1
     have s516:∀e∈x504.2.2.2,nodes e≤1000000:=by exact (hx _ (List.mem_of_getElem? s506)).2.2
     cases h517:isOk (valsE args x504.2.2.2) with
     | true =>
      refine Or.inl ?_
      obtain ⟨v518,e518⟩:=LX (okOf (valsE args x504.2.2.2))
      refine cx (.o (.c (.ls 1 cI kIc v518))) (zbh x504.2.2.2 args v518 (ok_of h517 e518) s515 s516) rfl ?_
      have s519:mv_.length≤40:=by exact hg.mv
      have s520:3≤v518.length:=by (have hvl:=qN (ok_of h517 e518);have q:=(hx _ (List.mem_of_getElem? s506)).1.k1 s514;omega)
      cases h521:isOk (zJ v518 (pt_,mv_,v510,c_)) with
      | true =>
       refine Or.inl ?_
       obtain ⟨v522,e522⟩:=LX (okOf (zJ v518 (pt_,mv_,v510,c_)))
       refine rx [sI v522.1.1,sI v522.1.2.1,sI v522.1.2.2,sI v522.2.2.1] [pG cM v522.2.1] [oStr w0 v522.2.2.2] (fun t u w=>⟨zeg su x504 v518 (pt_,mv_,v510,c_) v522 s519 s520 (ok_of h521 e522) ⟨rfl,rfl,rfl,rfl,rfl,rfl,rfl⟩ ⟨rfl,rfl,rfl,rfl,rfl,rfl,rfl⟩ rfl rfl rfl rfl,trivial⟩) ?_
       intro v523 e523
       refine nxl (v523,v522.1,v522.2.2.1,v522.2.1,v522.2.2.2) ?_ ?_ rfl
       all_goals (have dh502:=LD e501 h502;have dh508:=LE e507 h508;have dh512:=bne_iff_ne.1 (e511.trans h512);have dh513:=of_decide_eq_true h513;have hkn:n503=k:=(by omega);subst hkn;have hlt:=(List.getElem?_eq_some_iff.1 s506).1;have hd0:0≤dn_:=hg.dn;have hdn:dn_+1=v510:=(by rw [← e510,wri (by omega)]);have hh:handS x504 v518 (pt_,mv_,dn_+1,c_)=.ok v522:=(by rw [hdn,hand1 s514];exact ok_of h521 e522);have hst:stepC su n args (pt_,mv_,dn_,c_) x504=.ok v522:=(zI dh508 dh512 (ok_of h517 e518)).trans hh;rw [zt s506,hst] at hs;dsimp only at hs;have hg2:Gd v522:=zao (s:=(pt_,mv_,dn_,c_)) hh hg (show dn_<1000 by omega);have x3:v523=((n503+1:Nat):Int):=(by rw [← e523,hi,wri (by omega)];omega))
       ·show (v1 - v523).toNat<(v1 - i).toNat
        omega
       ·exact ⟨n503+1,x3,by omega,hg2,hs⟩
      | false =>
       refine Or.inr ?_
       obtain ⟨v522,e522⟩:=LX (errOf (zJ v518 (pt_,mv_,v510,c_)))
       refine rx [.v (.iface 37 (.int .i64 v522))] [] [] (fun t u w=>⟨zeh su x504 v518 (pt_,mv_,v510,c_) v522 s519 s520 (zn h521 e522) ⟨rfl,rfl,rfl,rfl,rfl,rfl,rfl⟩ rfl rfl rfl,trivial⟩) ?_
       exfalso
       (have dh502:=LD e501 h502;have dh508:=LE e507 h508;have dh512:=bne_iff_ne.1 (e511.trans h512);have dh513:=of_decide_eq_true h513;have hkn:n503=k:=(by omega);subst hkn;have hlt:=(List.getElem?_eq_some_iff.1 s506).1;have hd0:0≤dn_:=hg.dn;have hdn:dn_+1=v510:=(by rw [← e510,wri (by omega)]);have hh:handS x504 v518 (pt_,mv_,dn_+1,c_)=.error v522:=(by rw [hdn,hand1 s514];exact zn h521 e522);have hst:stepC su n args (pt_,mv_,dn_,c_) x504=.error v522:=(zI dh508 dh512 (ok_of h517 e518)).trans hh;rw [zt s506,hst] at hs;dsimp only at hs;cases hs)
     | false =>
      refine Or.inr ?_
      obtain ⟨v518,e518⟩:=LX (errOf (valsE args x504.2.2.2))
      refine rx [.v (.iface 37 (.int .i64 v518))] [] [] (fun t u w=>⟨b_con (pan:=true) (zac x504.2.2.2 args v518 (zn h517 e518) s515 s516),trivial⟩) ?_
      exfalso
      (have dh502:=LD e501 h502;have dh508:=LE e507 h508;have dh512:=bne_iff_ne.1 (e511.trans h512);have dh513:=of_decide_eq_true h513;have hkn:n503=k:=(by omega);subst hkn;have hlt:=(List.getElem?_eq_some_iff.1 s506).1;have hd0:0≤dn_:=hg.dn;have hdn:dn_+1=v510:=(by rw [← e510,wri (by omega)]);have hst:stepC su n args (pt_,mv_,dn_,c_) x504=.error v518:=qG dh508 dh512 (zn h517 e518);rw [zt s506,hst] at hs;dsimp only at hs;cases hs)
    | false =>
     refine Or.inr ?_
     cases h514:decide (x504.1=2) with
     | true =>
      refine Or.inl ?_
      have s515:x504.1=(2:Int):=by (have dh502:=LD e501 h502;have dh508:=LE e507 h508;have dh512:=bne_iff_ne.1 (e511.trans h512);have dh513:=of_decide_eq_false h513;have dh514:=of_decide_eq_true h514;have q:=(hx _ (List.mem_of_getElem? s506)).1.kind;omega)
      refine rx [] [] [] (fun t u w=>⟨e_ixH (E:=135) (n:=5) (i:=2) (ls:=[.k (.nilFunc),.q 109 [],.q 110 [],.q 111 [],.q 112 []]) (by kernel_rfl) (by kernel_rfl) (by kernel_rfl) (za rfl) s515 rfl (by decide),trivial⟩) ?_
      have s516:x504.2.2.2.length≤1000000:=by exact (hx _ (List.mem_of_getElem? s506)).2.1
      have s517:∀e∈x504.2.2.2,nodes e≤1000000:=by exact (hx _ (List.mem_of_getElem? s506)).2.2
      cases h518:isOk (valsE args x504.2.2.2) with
      | true =>
       refine Or.inl ?_
       obtain ⟨v519,e519⟩:=LX (okOf (valsE args x504.2.2.2))
       refine cx (.o (.c (.ls 1 cI kIc v519))) (zbh x504.2.2.2 args v519 (ok_of h518 e519) s516 s517) rfl ?_
       have s520:mv_.length≤40:=by exact hg.mv
       have s521:4≤v519.length:=by (have hvl:=qN (ok_of h518 e519);have q:=(hx _ (List.mem_of_getElem? s506)).1.k2 s515;omega)
       have s522:∀d,c_=some d→d.2.2.1.length≤1000∧d.2.2.2.length≤1000:=by (have dh502:=LD e501 h502;have dh508:=LE e507 h508;have dh512:=bne_iff_ne.1 (e511.trans h512);have dh513:=of_decide_eq_false h513;have dh514:=of_decide_eq_true h514;intro d hd;have h1:=(hg.c d hd).1;have h2:(d.2.2.1.length:Int)≤dn_:=(hg.c d hd).2;exact ⟨by omega,by omega⟩)
       cases h523:isOk (lineS v519 (pt_,mv_,v510,c_)) with
       | true =>
        refine Or.inl ?_
        obtain ⟨v524,e524⟩:=LX (okOf (lineS v519 (pt_,mv_,v510,c_)))
        refine rx [sI v524.1.1,sI v524.1.2.1,sI v524.1.2.2,sI v524.2.2.1] [pG cM v524.2.1] [oStr w0 v524.2.2.2] (fun t u w=>⟨zgm su x504 v519 (pt_,mv_,v510,c_) v524 s520 s521 s522 (ok_of h523 e524) ⟨rfl,rfl,rfl,rfl,rfl,rfl,rfl⟩ ⟨rfl,rfl,rfl,rfl,rfl,rfl,rfl⟩ rfl rfl rfl rfl,trivial⟩) ?_
        intro v525 e525
        refine nxl (v525,v524.1,v524.2.2.1,v524.2.1,v524.2.2.2) ?_ ?_ rfl
        all_goals (have dh502:=LD e501 h502;have dh508:=LE e507 h508;have dh512:=bne_iff_ne.1 (e511.trans h512);have dh513:=of_decide_eq_false h513;have dh514:=of_decide_eq_true h514;have hkn:n503=k:=(by omega);subst hkn;have hlt:=(List.getElem?_eq_some_iff.1 s506).1;have hd0:0≤dn_:=hg.dn;have hdn:dn_+1=v510:=(by rw [← e510,wri (by omega)]);have hh:handS x504 v519 (pt_,mv_,dn_+1,c_)=.ok v524:=(by rw [hdn,hand2 s515];exact ok_of h523 e524);have hst:stepC su n args (pt_,mv_,dn_,c_) x504=.ok v524:=(zI dh508 dh512 (ok_of h518 e519)).trans hh;rw [zt s506,hst] at hs;dsimp only at hs;have hg2:Gd v524:=zao (s:=(pt_,mv_,dn_,c_)) hh hg (show dn_<1000 by omega);have x3:v525=((n503+1:Nat):Int):=(by rw [← e525,hi,wri (by omega)];omega))
        ·show (v1 - v525).toNat<(v1 - i).toNat
         omega
        ·exact ⟨n503+1,x3,by omega,hg2,hs⟩
       | false =>
        refine Or.inr ?_
        obtain ⟨v524,e524⟩:=LX (errOf (lineS v519 (pt_,mv_,v510,c_)))
        refine rx [.v (.iface 37 (.int .i64 v524))] [] [] (fun t u w=>⟨zgn su x504 v519 (pt_,mv_,v510,c_) v524 s520 s521 s522 (zn h523 e524) ⟨rfl,rfl,rfl,rfl,rfl,rfl,rfl⟩ rfl rfl rfl,trivial⟩) ?_
        exfalso
        (have dh502:=LD e501 h502;have dh508:=LE e507 h508;have dh512:=bne_iff_ne.1 (e511.trans h512);have dh513:=of_decide_eq_false h513;have dh514:=of_decide_eq_true h514;have hkn:n503=k:=(by omega);subst hkn;have hlt:=(List.getElem?_eq_some_iff.1 s506).1;have hd0:0≤dn_:=hg.dn;have hdn:dn_+1=v510:=(by rw [← e510,wri (by omega)]);have hh:handS x504 v519 (pt_,mv_,dn_+1,c_)=.error v524:=(by rw [hdn,hand2 s515];exact zn h523 e524);have hst:stepC su n args (pt_,mv_,dn_,c_) x504=.error v524:=(zI dh508 dh512 (ok_of h518 e519)).trans hh;rw [zt s506,hst] at hs;dsimp only at hs;cases hs)
      | false =>
       refine Or.inr ?_
       obtain ⟨v519,e519⟩:=LX (errOf (valsE args x504.2.2.2))
       refine rx [.v (.iface 37 (.int .i64 v519))] [] [] (fun t u w=>⟨b_con (pan:=true) (zac x504.2.2.2 args v519 (zn h518 e519) s516 s517),trivial⟩) ?_
       exfalso
       (have dh502:=LD e501 h502;have dh508:=LE e507 h508;have dh512:=bne_iff_ne.1 (e511.trans h512);have dh513:=of_decide_eq_false h513;have dh514:=of_decide_eq_true h514;have hkn:n503=k:=(by omega);subst hkn;have hlt:=(List.getElem?_eq_some_iff.1 s506).1;have hd0:0≤dn_:=hg.dn;have hdn:dn_+1=v510:=(by rw [← e510,wri (by omega)]);have hst:stepC su n args (pt_,mv_,dn_,c_) x504=.error v519:=qG dh508 dh512 (zn h518 e519);rw [zt s506,hst] at hs;dsimp only at hs;cases hs)
     | false =>
      refine Or.inr ?_
      cases h515:decide (x504.1=3) with
      | true =>
       refine Or.inl ?_
       have s516:x504.1=(3:Int):=by (have dh502:=LD e501 h502;have dh508:=LE e507 h508;have dh512:=bne_iff_ne.1 (e511.trans h512);have dh513:=of_decide_eq_false h513;have dh514:=of_decide_eq_false h514;have dh515:=of_decide_eq_true h515;have q:=(hx _ (List.mem_of_getElem? s506)).1.kind;omega)
       refine rx [] [] [] (fun t u w=>⟨e_ixH (E:=135) (n:=5) (i:=3) (ls:=[.k (.nilFunc),.q 109 [],.q 110 [],.q 111 [],.q 112 []]) (by kernel_rfl) (by kernel_rfl) (by kernel_rfl) (za rfl) s516 rfl (by decide),trivial⟩) ?_
       have s517:x504.2.2.2.length≤1000000:=by exact (hx _ (List.mem_of_getElem? s506)).2.1
       have s518:∀e∈x504.2.2.2,nodes e≤1000000:=by exact (hx _ (List.mem_of_getElem? s506)).2.2
       cases h519:isOk (valsE args x504.2.2.2) with
       | true =>
        refine Or.inl ?_
        obtain ⟨v520,e520⟩:=LX (okOf (valsE args x504.2.2.2))
        refine cx (.o (.c (.ls 1 cI kIc v520))) (zbh x504.2.2.2 args v520 (ok_of h519 e520) s517 s518) rfl ?_
        have s521:mv_.length≤40:=by exact hg.mv
        have s522:7≤v520.length:=by (have hvl:=qN (ok_of h519 e520);have q:=(hx _ (List.mem_of_getElem? s506)).1.k3 s516;omega)
        cases h523:isOk (arcS v520 (pt_,mv_,v510,c_)) with
        | true =>
         refine Or.inl ?_
         obtain ⟨v524,e524⟩:=LX (okOf (arcS v520 (pt_,mv_,v510,c_)))
         refine rx [sI v524.1.1,sI v524.1.2.1,sI v524.1.2.2,sI v524.2.2.1] [pG cM v524.2.1] [oStr w0 v524.2.2.2] (fun t u w=>⟨zjo su x504 v520 (pt_,mv_,v510,c_) v524 s521 s522 (ok_of h523 e524) ⟨rfl,rfl,rfl,rfl,rfl,rfl,rfl⟩ ⟨rfl,rfl,rfl,rfl,rfl,rfl,rfl⟩ rfl rfl rfl rfl,trivial⟩) ?_
         intro v525 e525
         refine nxl (v525,v524.1,v524.2.2.1,v524.2.1,v524.2.2.2) ?_ ?_ rfl
         all_goals (have dh502:=LD e501 h502;have dh508:=LE e507 h508;have dh512:=bne_iff_ne.1 (e511.trans h512);have dh513:=of_decide_eq_false h513;have dh514:=of_decide_eq_false h514;have dh515:=of_decide_eq_true h515;have hkn:n503=k:=(by omega);subst hkn;have hlt:=(List.getElem?_eq_some_iff.1 s506).1;have hd0:0≤dn_:=hg.dn;have hdn:dn_+1=v510:=(by rw [← e510,wri (by omega)]);have hh:handS x504 v520 (pt_,mv_,dn_+1,c_)=.ok v524:=(by rw [hdn,hand3 s516];exact ok_of h523 e524);have hst:stepC su n args (pt_,mv_,dn_,c_) x504=.ok v524:=(zI dh508 dh512 (ok_of h519 e520)).trans hh;rw [zt s506,hst] at hs;dsimp only at hs;have hg2:Gd v524:=zao (s:=(pt_,mv_,dn_,c_)) hh hg (show dn_<1000 by omega);have x3:v525=((n503+1:Nat):Int):=(by rw [← e525,hi,wri (by omega)];omega))
         ·show (v1 - v525).toNat<(v1 - i).toNat
          omega
         ·exact ⟨n503+1,x3,by omega,hg2,hs⟩
        | false =>
         refine Or.inr ?_
         obtain ⟨v524,e524⟩:=LX (errOf (arcS v520 (pt_,mv_,v510,c_)))
         refine rx [.v (.iface 37 (.int .i64 v524))] [] [] (fun t u w=>⟨zjp su x504 v520 (pt_,mv_,v510,c_) v524 s521 s522 (zn h523 e524) ⟨rfl,rfl,rfl,rfl,rfl,rfl,rfl⟩ rfl rfl rfl,trivial⟩) ?_
         exfalso
         (have dh502:=LD e501 h502;have dh508:=LE e507 h508;have dh512:=bne_iff_ne.1 (e511.trans h512);have dh513:=of_decide_eq_false h513;have dh514:=of_decide_eq_false h514;have dh515:=of_decide_eq_true h515;have hkn:n503=k:=(by omega);subst hkn;have hlt:=(List.getElem?_eq_some_iff.1 s506).1;have hd0:0≤dn_:=hg.dn;have hdn:dn_+1=v510:=(by rw [← e510,wri (by omega)]);have hh:handS x504 v520 (pt_,mv_,dn_+1,c_)=.error v524:=(by rw [hdn,hand3 s516];exact zn h523 e524);have hst:stepC su n args (pt_,mv_,dn_,c_) x504=.error v524:=(zI dh508 dh512 (ok_of h519 e520)).trans hh;rw [zt s506,hst] at hs;dsimp only at hs;cases hs)
       | false =>
        refine Or.inr ?_
        obtain ⟨v520,e520⟩:=LX (errOf (valsE args x504.2.2.2))
        refine rx [.v (.iface 37 (.int .i64 v520))] [] [] (fun t u w=>⟨b_con (pan:=true) (zac x504.2.2.2 args v520 (zn h519 e520) s517 s518),trivial⟩) ?_
        exfalso
        (have dh502:=LD e501 h502;have dh508:=LE e507 h508;have dh512:=bne_iff_ne.1 (e511.trans h512);have dh513:=of_decide_eq_false h513;have dh514:=of_decide_eq_false h514;have dh515:=of_decide_eq_true h515;have hkn:n503=k:=(by omega);subst hkn;have hlt:=(List.getElem?_eq_some_iff.1 s506).1;have hd0:0≤dn_:=hg.dn;have hdn:dn_+1=v510:=(by rw [← e510,wri (by omega)]);have hst:stepC su n args (pt_,mv_,dn_,c_) x504=.error v520:=qG dh508 dh512 (zn h519 e520);rw [zt s506,hst] at hs;dsimp only at hs;cases hs)
      | false =>
       refine Or.inr ?_
       have s516:x504.1=(4:Int):=by (have dh502:=LD e501 h502;have dh508:=LE e507 h508;have dh512:=bne_iff_ne.1 (e511.trans h512);have dh513:=of_decide_eq_false h513;have dh514:=of_decide_eq_false h514;have dh515:=of_decide_eq_false h515;have q:=(hx _ (List.mem_of_getElem? s506)).1.kind;omega)
       refine rx [] [] [] (fun t u w=>⟨e_ixH (E:=135) (n:=5) (i:=4) (ls:=[.k (.nilFunc),.q 109 [],.q 110 [],.q 111 [],.q 112 []]) (by kernel_rfl) (by kernel_rfl) (by kernel_rfl) (za rfl) s516 rfl (by decide),trivial⟩) ?_
       have s517:x504.2.2.2.length≤1000000:=by exact (hx _ (List.mem_of_getElem? s506)).2.1
       have s518:∀e∈x504.2.2.2,nodes e≤1000000:=by exact (hx _ (List.mem_of_getElem? s506)).2.2
       cases h519:isOk (valsE args x504.2.2.2) with
       | true =>
        refine Or.inl ?_
        obtain ⟨v520,e520⟩:=LX (okOf (valsE args x504.2.2.2))
        refine cx (.o (.c (.ls 1 cI kIc v520))) (zbh x504.2.2.2 args v520 (ok_of h519 e520) s517 s518) rfl ?_
        have s521:mv_.length≤40:=by exact hg.mv
        have s522:x504.2.1≠0→1≤v520.length:=by (intro hn;have hvl:=qN (ok_of h519 e520);have q:=(hx _ (List.mem_of_getElem? s506)).1.k4 s516 hn;omega)
        have s523:∀d,c_=some d→d.2.2.1.length≤1000∧d.2.2.2.length=d.2.2.1.length:=by (have dh502:=LD e501 h502;have dh508:=LE e507 h508;have dh512:=bne_iff_ne.1 (e511.trans h512);have dh513:=of_decide_eq_false h513;have dh514:=of_decide_eq_false h514;have dh515:=of_decide_eq_false h515;intro d hd;have h1:=(hg.c d hd).1;have h2:(d.2.2.1.length:Int)≤dn_:=(hg.c d hd).2;exact ⟨by omega,by omega⟩)
        cases h524:isOk (turnS x504.2.1 v520 (pt_,mv_,v510,c_)) with
        | true =>
         refine Or.inl ?_
         obtain ⟨v525,e525⟩:=LX (okOf (turnS x504.2.1 v520 (pt_,mv_,v510,c_)))
         refine rx [sI v525.1.1,sI v525.1.2.1,sI v525.1.2.2,sI v525.2.2.1] [pG cM v525.2.1] [oStr w0 v525.2.2.2] (fun t u w=>⟨zgy su x504 v520 (pt_,mv_,v510,c_) v525 s521 s522 s523 (ok_of h524 e525) ⟨rfl,rfl,rfl,rfl,rfl,rfl,rfl⟩ ⟨rfl,rfl,rfl,rfl,rfl,rfl,rfl⟩ rfl rfl rfl rfl,trivial⟩) ?_
         intro v526 e526
         refine nxl (v526,v525.1,v525.2.2.1,v525.2.1,v525.2.2.2) ?_ ?_ rfl
         all_goals (have dh502:=LD e501 h502;have dh508:=LE e507 h508;have dh512:=bne_iff_ne.1 (e511.trans h512);have dh513:=of_decide_eq_false h513;have dh514:=of_decide_eq_false h514;have dh515:=of_decide_eq_false h515;have hkn:n503=k:=(by omega);subst hkn;have hlt:=(List.getElem?_eq_some_iff.1 s506).1;have hd0:0≤dn_:=hg.dn;have hdn:dn_+1=v510:=(by rw [← e510,wri (by omega)]);have hh:handS x504 v520 (pt_,mv_,dn_+1,c_)=.ok v525:=(by rw [hdn,hand4 s516];exact ok_of h524 e525);have hst:stepC su n args (pt_,mv_,dn_,c_) x504=.ok v525:=(zI dh508 dh512 (ok_of h519 e520)).trans hh;rw [zt s506,hst] at hs;dsimp only at hs;have hg2:Gd v525:=zao (s:=(pt_,mv_,dn_,c_)) hh hg (show dn_<1000 by omega);have x3:v526=((n503+1:Nat):Int):=(by rw [← e526,hi,wri (by omega)];omega))
         ·show (v1 - v526).toNat<(v1 - i).toNat
          omega
         ·exact ⟨n503+1,x3,by omega,hg2,hs⟩
        | false =>
         refine Or.inr ?_
         obtain ⟨v525,e525⟩:=LX (errOf (turnS x504.2.1 v520 (pt_,mv_,v510,c_)))
         refine rx [.v (.iface 37 (.int .i64 v525))] [] [] (fun t u w=>⟨zgz su x504 v520 (pt_,mv_,v510,c_) v525 s521 s522 s523 (zn h524 e525) ⟨rfl,rfl,rfl,rfl,rfl,rfl,rfl⟩ rfl rfl rfl,trivial⟩) ?_
         exfalso
         (have dh502:=LD e501 h502;have dh508:=LE e507 h508;have dh512:=bne_iff_ne.1 (e511.trans h512);have dh513:=of_decide_eq_false h513;have dh514:=of_decide_eq_false h514;have dh515:=of_decide_eq_false h515;have hkn:n503=k:=(by omega);subst hkn;have hlt:=(List.getElem?_eq_some_iff.1 s506).1;have hd0:0≤dn_:=hg.dn;have hdn:dn_+1=v510:=(by rw [← e510,wri (by omega)]);have hh:handS x504 v520 (pt_,mv_,dn_+1,c_)=.error v525:=(by rw [hdn,hand4 s516];exact zn h524 e525);have hst:stepC su n args (pt_,mv_,dn_,c_) x504=.error v525:=(zI dh508 dh512 (ok_of h519 e520)).trans hh;rw [zt s506,hst] at hs;dsimp only at hs;cases hs)
       | false =>
        refine Or.inr ?_
        obtain ⟨v520,e520⟩:=LX (errOf (valsE args x504.2.2.2))
        refine rx [.v (.iface 37 (.int .i64 v520))] [] [] (fun t u w=>⟨b_con (pan:=true) (zac x504.2.2.2 args v520 (zn h519 e520) s517 s518),trivial⟩) ?_
        exfalso
        (have dh502:=LD e501 h502;have dh508:=LE e507 h508;have dh512:=bne_iff_ne.1 (e511.trans h512);have dh513:=of_decide_eq_false h513;have dh514:=of_decide_eq_false h514;have dh515:=of_decide_eq_false h515;have hkn:n503=k:=(by omega);subst hkn;have hlt:=(List.getElem?_eq_some_iff.1 s506).1;have hd0:0≤dn_:=hg.dn;have hdn:dn_+1=v510:=(by rw [← e510,wri (by omega)]);have hst:stepC su n args (pt_,mv_,dn_,c_) x504=.error v520:=qG dh508 dh512 (zn h519 e520);rw [zt s506,hst] at hs;dsimp only at hs;cases hs)
   ·
    cases h513:(su.find? (fun y=>y.1 == x504.2.2.1)).isSome with
    | true =>
     refine Or.inl ?_
     obtain ⟨y514,s515⟩:∃(y514:(List UInt8×Sb)),su.find? (fun y=>y.1 == x504.2.2.1)=some y514:=by exact Option.isSome_iff_exists.1 h513
     refine rx [sS y514.2.1,sI y514.2.2.1,.ls 4 cSt kSt y514.2.2.2] [] [] (fun t u w=>⟨e_lkY (Kt:=9) (E:=56) (by kernel_rfl) (by kernel_rfl) rfl (za rfl) s515 (fun β W v ⟨u,e,h⟩=>⟨_,e,rfl,rfl,h,trivial⟩) zf,trivial⟩) ?_
     intro v516 e516 v517 e517
     refine ai (fun h518=>?_) fun h518=>?_
     ·
      have s519:(true && ((18:Int) != 0))=true:=by rfl
      refine rx [.v (.iface 37 (.int .i64 (18:Int)))] [] [] (fun t u w=>⟨b_con (pan:=true) (zh true (18:Int) (18:Int) rfl s519),trivial⟩) ?_
      exfalso
      (have dh502:=LD e501 h502;have dh508:=LE e507 h508;have dh512:=bne_eq_false_iff_eq.1 (e511.trans h512);have dh518:=bne_iff_ne.1 (e517.trans h518);have hkn:n503=k:=(by omega);subst hkn;have hlt:=(List.getElem?_eq_some_iff.1 s506).1;have hd0:0≤dn_:=hg.dn;have hdn:dn_+1=v510:=(by rw [← e510,wri (by omega)]);have hz:=e516;have hst:stepC su n args (pt_,mv_,dn_,c_) x504=.error 18:=zb6 dh508 dh512 s515 (by omega);rw [zt s506,hst] at hs;dsimp only at hs;cases hs)
     ·
      intro v519 e519
      refine ai (fun h520=>?_) fun h520=>?_
      ·
       have s521:(v519 && ((18:Int) != 0))=true:=by (rw [h520];rfl)
       refine rx [.v (.iface 37 (.int .i64 (18:Int)))] [] [] (fun t u w=>⟨b_con (pan:=true) (zh v519 (18:Int) (18:Int) rfl s521),trivial⟩) ?_
       exfalso
       (have dh502:=LD e501 h502;have dh508:=LE e507 h508;have dh512:=bne_eq_false_iff_eq.1 (e511.trans h512);have dh518:=bne_eq_false_iff_eq.1 (e517.trans h518);have dh520:=LD e519 h520;have hkn:n503=k:=(by omega);subst hkn;have hlt:=(List.getElem?_eq_some_iff.1 s506).1;have hd0:0≤dn_:=hg.dn;have hdn:dn_+1=v510:=(by rw [← e510,wri (by omega)]);have hz:=e516;have hst:stepC su n args (pt_,mv_,dn_,c_) x504=.error 18:=zb6 dh508 dh512 s515 (by omega);rw [zt s506,hst] at hs;dsimp only at hs;cases hs)
      ·
       have s521:(v519 && ((18:Int) != 0))=false:=by (rw [h520];rfl)
       refine cx (.t []) (zv v519 (18:Int) s521) rfl ?_
       have s522:x504.2.2.2.length≤1000000:=by exact (hx _ (List.mem_of_getElem? s506)).2.1
       have s523:∀e∈x504.2.2.2,nodes e≤1000000:=by exact (hx _ (List.mem_of_getElem? s506)).2.2
       cases h524:isOk (valsE args x504.2.2.2) with
       | true =>
        refine Or.inl ?_
        obtain ⟨v525,e525⟩:=LX (okOf (valsE args x504.2.2.2))
        refine cx (.o (.c (.ls 1 cI kIc v525))) (zbh x504.2.2.2 args v525 (ok_of h524 e525) s522 s523) rfl ?_
        intro v526 e526
        have s527:zax w0 su n:=by (have dh502:=LD e501 h502;have dh508:=LE e507 h508;have dh512:=bne_eq_false_iff_eq.1 (e511.trans h512);have dh518:=bne_eq_false_iff_eq.1 (e517.trans h518);have dh520:=LE e519 h520;exact IH (by omega))
        have s528:n≤7:=by (have dh502:=LD e501 h502;have dh508:=LE e507 h508;have dh512:=bne_eq_false_iff_eq.1 (e511.trans h512);have dh518:=bne_eq_false_iff_eq.1 (e517.trans h518);have dh520:=LE e519 h520;omega)
        have s529:v526=7 - (n:Int):=by (have dh502:=LD e501 h502;have dh508:=LE e507 h508;have dh512:=bne_eq_false_iff_eq.1 (e511.trans h512);have dh518:=bne_eq_false_iff_eq.1 (e517.trans h518);have dh520:=LE e519 h520;rw [← e526,wri (by omega)];omega)
        have s530:y514.2.2.2.length≤1000000:=by exact (hsu _ (List.mem_of_find?_eq_some s515)).1
        have s531:∀x∈y514.2.2.2,StOk x:=by exact (hsu _ (List.mem_of_find?_eq_some s515)).2
        have s532:Gd (pt_,mv_,v510,c_):=by (have dh502:=LD e501 h502;have dh508:=LE e507 h508;have dh512:=bne_eq_false_iff_eq.1 (e511.trans h512);have dh518:=bne_eq_false_iff_eq.1 (e517.trans h518);have dh520:=LE e519 h520;have hd0:0≤dn_:=hg.dn;have e:v510=dn_+1:=(by rw [← e510,wri (by omega)]);rw [e];exact zd0 hg (show dn_<1000 by omega))
        cases h533:isOk (zB su n y514.2.2.2 v525 (pt_,mv_,v510,c_)) with
        | true =>
         refine Or.inl ?_
         obtain ⟨v534,e534⟩:=LX (okOf (zB su n y514.2.2.2 v525 (pt_,mv_,v510,c_)))
         refine rx [sI v534.1.1,sI v534.1.2.1,sI v534.1.2.2,sI v534.2.2.1] [pG cM v534.2.1] [oStr w0 v534.2.2.2] (fun t u w=>⟨zbw su y514.2.2.2 v525 v526 (pt_,mv_,v510,c_) v534 s527 s528 s529 s530 s531 s532 (ok_of h533 e534) ⟨rfl,rfl,rfl,rfl,rfl,rfl,rfl⟩ ⟨rfl,rfl,rfl,rfl,rfl,rfl,rfl⟩ rfl rfl rfl rfl,trivial⟩) ?_
         intro v535 e535
         refine nxl (v535,v534.1,v534.2.2.1,v534.2.1,v534.2.2.2) ?_ ?_ rfl
         all_goals (have dh502:=LD e501 h502;have dh508:=LE e507 h508;have dh512:=bne_eq_false_iff_eq.1 (e511.trans h512);have dh518:=bne_eq_false_iff_eq.1 (e517.trans h518);have dh520:=LE e519 h520;have hkn:n503=k:=(by omega);subst hkn;have hlt:=(List.getElem?_eq_some_iff.1 s506).1;have hd0:0≤dn_:=hg.dn;have hdn:dn_+1=v510:=(by rw [← e510,wri (by omega)]);have hz:=e516;have hb:¬ (y514.2.2.1≠(x504.2.2.2.length:Int)∨n=0):=(by omega);have hh:zB su n y514.2.2.2 v525 (pt_,mv_,dn_+1,c_)=.ok v534:=(by rw [hdn];exact ok_of h533 e534);have hst:stepC su n args (pt_,mv_,dn_,c_) x504=.ok v534:=(zb7 dh508 dh512 s515 hb (ok_of h524 e525)).trans hh;rw [zt s506,hst] at hs;dsimp only at hs;have hg2:Gd v534:=za1 n _ _ _ _ hh (zd0 (s:=(pt_,mv_,dn_,c_)) hg (show dn_<1000 by omega));have x3:v535=((n503+1:Nat):Int):=(by rw [← e535,hi,wri (by omega)];omega))
         ·show (v1 - v535).toNat<(v1 - i).toNat
          omega
         ·exact ⟨n503+1,x3,by omega,hg2,hs⟩
        | false =>
         refine Or.inr ?_
         obtain ⟨v534,e534⟩:=LX (errOf (zB su n y514.2.2.2 v525 (pt_,mv_,v510,c_)))
         refine rx [.v (.iface 37 (.int .i64 v534))] [] [] (fun t u w=>⟨zbx su y514.2.2.2 v525 v526 (pt_,mv_,v510,c_) v534 s527 s528 s529 s530 s531 s532 (zn h533 e534) ⟨rfl,rfl,rfl,rfl,rfl,rfl,rfl⟩ rfl rfl rfl,trivial⟩) ?_
         exfalso
         (have dh502:=LD e501 h502;have dh508:=LE e507 h508;have dh512:=bne_eq_false_iff_eq.1 (e511.trans h512);have dh518:=bne_eq_false_iff_eq.1 (e517.trans h518);have dh520:=LE e519 h520;have hkn:n503=k:=(by omega);subst hkn;have hlt:=(List.getElem?_eq_some_iff.1 s506).1;have hd0:0≤dn_:=hg.dn;have hdn:dn_+1=v510:=(by rw [← e510,wri (by omega)]);have hz:=e516;have hb:¬ (y514.2.2.1≠(x504.2.2.2.length:Int)∨n=0):=(by omega);have hh:zB su n y514.2.2.2 v525 (pt_,mv_,dn_+1,c_)=.error v534:=(by rw [hdn];exact zn h533 e534);have hst:stepC su n args (pt_,mv_,dn_,c_) x504=.error v534:=(zb7 dh508 dh512 s515 hb (ok_of h524 e525)).trans hh;rw [zt s506,hst] at hs;dsimp only at hs;cases hs)
       | false =>
        refine Or.inr ?_
        obtain ⟨v525,e525⟩:=LX (errOf (valsE args x504.2.2.2))
        refine rx [.v (.iface 37 (.int .i64 v525))] [] [] (fun t u w=>⟨b_con (pan:=true) (zac x504.2.2.2 args v525 (zn h524 e525) s522 s523),trivial⟩) ?_
        intro v526 e526
        exfalso
        (have dh502:=LD e501 h502;have dh508:=LE e507 h508;have dh512:=bne_eq_false_iff_eq.1 (e511.trans h512);have dh518:=bne_eq_false_iff_eq.1 (e517.trans h518);have dh520:=LE e519 h520;have hkn:n503=k:=(by omega);subst hkn;have hlt:=(List.getElem?_eq_some_iff.1 s506).1;have hd0:0≤dn_:=hg.dn;have hdn:dn_+1=v510:=(by rw [← e510,wri (by omega)]);have hz:=e516;have hb:¬ (y514.2.2.1≠(x504.2.2.2.length:Int)∨n=0):=(by omega);have hst:stepC su n args (pt_,mv_,dn_,c_) x504=.error v525:=zgc dh508 dh512 s515 hb (zn h524 e525);rw [zt s506,hst] at hs;dsimp only at hs;cases hs)
    | false =>
     refine Or.inr ?_
     have s514:su.find? (fun y=>y.1 == x504.2.2.1)=none:=by (cases hq:su.find? (fun y=>y.1 == x504.2.2.1) with | none=>rfl | some y=>rw [hq] at h513;cases h513)
     refine rx [] [] [] (fun t u w=>⟨e_lkN (Kt:=9) (E:=56) (z:=#[.string ⟨#[]⟩,.int .i64 0,.slice none 0 0]) (by kernel_rfl) (by kernel_rfl) (fun W=>by kernel_rfl) rfl (za rfl) s514 rfl,trivial⟩) ?_
     have s515:(true && ((18:Int) != 0))=true:=by rfl
     refine rx [.v (.iface 37 (.int .i64 (18:Int)))] [] [] (fun t u w=>⟨b_con (pan:=true) (zh true (18:Int) (18:Int) rfl s515),trivial⟩) ?_
     exfalso
     (have dh502:=LD e501 h502;have dh508:=LE e507 h508;have dh512:=bne_eq_false_iff_eq.1 (e511.trans h512);have hkn:n503=k:=(by omega);subst hkn;have hlt:=(List.getElem?_eq_some_iff.1 s506).1;have hd0:0≤dn_:=hg.dn;have hdn:dn_+1=v510:=(by rw [← e510,wri (by omega)]);have hst:stepC su n args (pt_,mv_,dn_,c_) x504=.error 18:=zgb dh508 dh512 s514;rw [zt s506,hst] at hs;dsimp only at hs;cases hs)
 ·
  have hq:((pt_)=pt2)∧((dn_)=dn2)∧((mv_)=mv2)∧((c_)=c2)∧True:=by
   refine ⟨?_,?_,?_,?_,trivial⟩
   all_goals (have dh502:=LE e501 h502;have hkl:k=l.length:=(by omega);subst hkl;rw [List.drop_length] at hs;have hs2:(Except.ok (pt_,mv_,dn_,c_):RE)=.ok (pt2,mv2,dn2,c2):=hs;injection hs2 with hs2;simp only [Prod.mk.injEq] at hs2;obtain ⟨a1,a2,a3,a4⟩:=hs2;first | exact a1 | exact a2 | exact a3 | exact a4)
  obtain ⟨q0,q1,q2,q3,-⟩:=hq
  rw [← q0,← q1,← q2,← q3]
  rfl
def zkx:List Atom:=[.sl 0 (.o (.c (.p 900 0))),.sl 2 6,.sl 3 7,.sl 12 5,.sl 13 8,.sl 14 9,.bx 900 108 [.h 0,.h 10,.h 11,.h 12,.gr 901,.h 13,.po 902],.gl 901 45 11 1,.hp [902,903,904] [] 1]
def caB_S:LoopS:=⟨1,zkx.map (tnA (jf (hZ 9 [kI 0,1,2,3,4])) (kf [0,0]) (kf [0,0])),(.p (9)),[]⟩
def caB_t:Tr:=.s [(6000,.bin .lss 3 9 8)] (.b 14 (.s [(6001,.ia 54 62 4 5 9),(6002,.ld 62 4 15),(6009,.bin .geq 3 13 (kI 1000))] (.b 20 (.s [(0,.raw [(1006010,.pan ⟨55,[20,.o (.c (.k (.int .i64 9)))],[],21,[]⟩)] 1)] (.z (.xt (.p (21)) (hZ 9 [21]) [0] [0]))) (.s [(6010,.call 55 [20,LF (kI 9)] (.t [])),(6015,.bin .add 3 13 (kI 1)),(6021,.bin .neq 3 16 (kI 5))] (.b 22 (.s [(0,.raw [(1006022,.call ⟨81,[],[],.o (.g [.k (.nilFunc),.q 109 [],.q 110 [],.q 111 [],.q 112 []]),[]⟩)] 0)] (.r (.s [(0,.raw [(1006025,.op (.ix 136) [.o (.g [.k (.nilFunc),.q 109 [],.q 110 [],.q 111 [],.q 112 []]),16] [] (LF (.q 109 [])))] 0)] (.r (.s [(6031,.call 82 [19,6] (.o .c))] (.r (.s [(0,.raw [(1006032,.call ⟨109,[LF (.p 900 0),.o (.g [16,17,18,19]),23],rnA 0 10 11 12 21 1 1,.t [],rnA 0 24 25 26 27 2 2⟩)] 4),(6033,.bin .add 3 9 (kI 1))] (.z (.nx (hZ 9 [28,24,25,26,27]) [0,2] [0,2]))) (.s [(0,.raw [(1006032,.pan ⟨109,[LF (.p 900 0),.o (.g [16,17,18,19]),23],rnA 0 10 11 12 21 1 1,24,[]⟩)] 1)] (.z (.xt (.p (24)) (hZ 9 [24]) [0] [0]))))) (.s [(0,.raw [(1006031,.pan ⟨82,[19,6],[],23,[]⟩)] 1)] (.z (.xt (.p (23)) (hZ 9 [23]) [0] [0]))))) (.r (.s [(0,.raw [(1006025,.op (.ix 136) [.o (.g [.k (.nilFunc),.q 109 [],.q 110 [],.q 111 [],.q 112 []]),16] [] (LF (.q 110 [])))] 0)] (.r (.s [(6031,.call 82 [19,6] (.o .c))] (.r (.s [(0,.raw [(1006032,.call ⟨110,[LF (.p 900 0),.o (.g [16,17,18,19]),23],rnA 0 10 11 12 21 1 1,.t [],rnA 0 24 25 26 27 2 2⟩)] 4),(6033,.bin .add 3 9 (kI 1))] (.z (.nx (hZ 9 [28,24,25,26,27]) [0,2] [0,2]))) (.s [(0,.raw [(1006032,.pan ⟨110,[LF (.p 900 0),.o (.g [16,17,18,19]),23],rnA 0 10 11 12 21 1 1,24,[]⟩)] 1)] (.z (.xt (.p (24)) (hZ 9 [24]) [0] [0]))))) (.s [(0,.raw [(1006031,.pan ⟨82,[19,6],[],23,[]⟩)] 1)] (.z (.xt (.p (23)) (hZ 9 [23]) [0] [0]))))) (.r (.s [(0,.raw [(1006025,.op (.ix 136) [.o (.g [.k (.nilFunc),.q 109 [],.q 110 [],.q 111 [],.q 112 []]),16] [] (LF (.q 111 [])))] 0)] (.r (.s [(6031,.call 82 [19,6] (.o .c))] (.r (.s [(0,.raw [(1006032,.call ⟨111,[LF (.p 900 0),.o (.g [16,17,18,19]),23],rnA 0 10 11 12 21 1 1,.t [],rnA 0 24 25 26 27 2 2⟩)] 4),(6033,.bin .add 3 9 (kI 1))] (.z (.nx (hZ 9 [28,24,25,26,27]) [0,2] [0,2]))) (.s [(0,.raw [(1006032,.pan ⟨111,[LF (.p 900 0),.o (.g [16,17,18,19]),23],rnA 0 10 11 12 21 1 1,24,[]⟩)] 1)] (.z (.xt (.p (24)) (hZ 9 [24]) [0] [0]))))) (.s [(0,.raw [(1006031,.pan ⟨82,[19,6],[],23,[]⟩)] 1)] (.z (.xt (.p (23)) (hZ 9 [23]) [0] [0]))))) (.s [(0,.raw [(1006025,.op (.ix 136) [.o (.g [.k (.nilFunc),.q 109 [],.q 110 [],.q 111 [],.q 112 []]),16] [] (LF (.q 112 [])))] 0)] (.r (.s [(6031,.call 82 [19,6] (.o .c))] (.r (.s [(0,.raw [(1006032,.call ⟨112,[LF (.p 900 0),.o (.g [16,17,18,19]),23],rnA 0 10 11 12 21 1 1,.t [],rnA 0 24 25 26 27 2 2⟩)] 4),(6033,.bin .add 3 9 (kI 1))] (.z (.nx (hZ 9 [28,24,25,26,27]) [0,2] [0,2]))) (.s [(0,.raw [(1006032,.pan ⟨112,[LF (.p 900 0),.o (.g [16,17,18,19]),23],rnA 0 10 11 12 21 1 1,24,[]⟩)] 1)] (.z (.xt (.p (24)) (hZ 9 [24]) [0] [0]))))) (.s [(0,.raw [(1006031,.pan ⟨82,[19,6],[],23,[]⟩)] 1)] (.z (.xt (.p (23)) (hZ 9 [23]) [0] [0]))))))))) (.r (.s [(0,.raw [(1006028,.op (.lk 105 true) [0,18] [] (.t [.g [23,24,25],.c (.k (.bool true))]))] 3),(6042,.ln 58 3 19),(6043,.bin .neq 3 24 26)] (.b 27 (.s [(0,.raw [(1006049,.pan ⟨55,[.o (.c (.k (.bool true))),.o (.c (.k (.int .i64 18)))],[],28,[]⟩)] 1)] (.z (.xt (.p (28)) (hZ 9 [28]) [0] [0]))) (.s [(6047,.bin .geq 3 7 (kI 6))] (.b 28 (.s [(0,.raw [(1006049,.pan ⟨55,[28,.o (.c (.k (.int .i64 18)))],[],29,[]⟩)] 1)] (.z (.xt (.p (29)) (hZ 9 [29]) [0] [0]))) (.s [(6049,.call 55 [28,LF (kI 18)] (.t []))] (.r (.s [(6056,.call 82 [19,6] (.o .c)),(6058,.bin .add 3 7 (kI 1))] (.r (.s [(0,.raw [(1006059,.call ⟨56,[LF (.p 900 0),25,29,30],rnA 0 10 11 12 21 1 1,.t [],rnA 0 31 32 33 34 2 2⟩)] 4),(6060,.bin .add 3 9 (kI 1))] (.z (.nx (hZ 9 [35,31,32,33,34]) [0,2] [0,2]))) (.s [(0,.raw [(1006059,.pan ⟨56,[LF (.p 900 0),25,29,30],rnA 0 10 11 12 21 1 1,31,[]⟩)] 1)] (.z (.xt (.p (31)) (hZ 9 [31]) [0] [0]))))) (.s [(0,.raw [(1006056,.pan ⟨82,[19,6],[],29,[]⟩)] 1),(6058,.bin .add 3 7 (kI 1))] (.z (.xt (.p (29)) (hZ 9 [29]) [0] [0]))))))))) (.s [(0,.raw [(1006028,.op (.lk 105 true) [0,18] [] (.t [.g [.k (.string ⟨#[]⟩),.k (.int .i64 0),.k (.slice none 0 0)],.c (.k (.bool false))]))] 0),(0,.raw [(1006049,.pan ⟨55,[.o (.c (.k (.bool true))),.o (.c (.k (.int .i64 18)))],[],23,[]⟩)] 1)] (.z (.xt (.p (23)) (hZ 9 [23]) [0] [0])))))))) (.z .no))
theorem zoV {w0:World} (su:(List (List UInt8×Sb))) (pt:Vec) (mv:(List Mov)) (dn:Int) (c:(Option Str)) (l:(List Stm)) (args:(List Int)) (cl:Int) (n:Nat) (v1:Int) (er:Int) (hv:(l.length:Int)=v1) (hl:l.length≤1000000) (hx:∀x∈l,StOk x) (hsu:SuOk su) (IH:n≠0→zax w0 su n) (hn:n≤6) (hcl:cl=6 - (n:Int)) (hg:Gd (pt,mv,dn,c)) (hO:zB su (n+1) l args (pt,mv,dn,c)=.error er):LpH (KN w0) Tryz.prog 56 ⟨ntOf Tryz.prog 56,[900,901,902,903,904],[901,902,903,904]⟩ caB_S 0 ⟨10,[.v (.iface 37 (.int .i64 er)),sI v1,sI cl,.ls 1 cI kIc args,.ls 4 cSt kSt l,sI dn,sI pt.2.2,sI pt.2.1,sI pt.1,.q (pSu su)],[pG cM mv],[oStr w0 c]⟩:=by
 refine zi _ ⟨zkx,caB_S,(14,2,2),(10,1,1),6000⟩ (T:=Int×Vec×Int×(List Mov)×(Option Str)) (fun t=>⟨14,[sI t.2.2.1,sI t.2.1.2.2,sI t.2.1.2.1,sI t.2.1.1,sI t.1,sI v1,sI cl,.ls 1 cI kIc args,.ls 4 cSt kSt l,sI dn,sI pt.2.2,sI pt.2.1,sI pt.1,.q (pSu su)],[pG cM mv,pG cM t.2.2.2.1],[oStr w0 c,oStr w0 t.2.2.2.2]⟩) (fun (i,pt_,dn_,mv_,c_)=>∃k:Nat,i=(k:Int)∧k≤l.length∧Gd (pt_,mv_,dn_,c_)∧(l.drop k).foldlM (stepC su n args) (pt_,mv_,dn_,c_)=.error er) (fun (i,pt_,dn_,mv_,c_)=>(v1 - i).toNat) ((0:Int),pt,dn,mv,c) (hZ 9 [kI 0,1,2,3,4]) [0,0] [0,0] caB_t mixed ⟨0,rfl,Nat.zero_le _,hg,hO⟩ rfl rfl rfl rfl (fun _=>rfl) rfl rfl (by kernel_rfl) ?_
 rintro ⟨i,pt_,dn_,mv_,c_⟩ hJ
 dsimp only at hJ ⊢
 obtain ⟨k,hi,hk,hg,hs⟩:=hJ
 intro v501 e501
 refine ai (fun h502=>?_) fun h502=>?_
 ·
  refine ai (by (have dh502:=LD e501 h502;have hlt:k<l.length:=(by omega);exact ⟨k,_,hi,List.getElem?_eq_getElem hlt⟩)) fun n503 x504 s505 s506=>?_
  intro v507 e507
  refine ai (fun h508=>?_) fun h508=>?_
  ·
   have s509:(v507 && ((9:Int) != 0))=true:=by (rw [h508];rfl)
   refine rx [.v (.iface 37 (.int .i64 (9:Int)))] [] [] (fun t u w=>⟨b_con (pan:=true) (zh v507 (9:Int) (9:Int) rfl s509),trivial⟩) ?_
   have hq:(((9:Int))=er)∧True:=by
    refine ⟨?_,trivial⟩
    (have dh502:=LD e501 h502;have dh508:=LD e507 h508;have hkn:n503=k:=(by omega);subst hkn;have hlt:=(List.getElem?_eq_some_iff.1 s506).1;have hst:stepC su n args (pt_,mv_,dn_,c_) x504=.error 9:=zga dh508;rw [zt s506,hst] at hs;dsimp only at hs;injection hs)
   obtain ⟨q0,-⟩:=hq
   rw [← q0]
   rfl
  ·
   have s509:(v507 && ((9:Int) != 0))=false:=by (rw [h508];rfl)
   refine cx (.t []) (zv v507 (9:Int) s509) rfl ?_
   intro v510 e510 v511 e511
   refine ai (fun h512=>?_) fun h512=>?_
   ·
    refine rx [] [] [] (fun t u w=>⟨zef,trivial⟩) ?_
    cases h513:decide (x504.1=1) with
    | true =>
     refine Or.inl ?_
     have s514:x504.1=(1:Int):=by (have dh502:=LD e501 h502;have dh508:=LE e507 h508;have dh512:=bne_iff_ne.1 (e511.trans h512);have dh513:=of_decide_eq_true h513;have q:=(hx _ (List.mem_of_getElem? s506)).1.kind;omega)
     refine rx [] [] [] (fun t u w=>⟨e_ixH (E:=135) (n:=5) (i:=1) (ls:=[.k (.nilFunc),.q 109 [],.q 110 [],.q 111 [],.q 112 []]) (by kernel_rfl) (by kernel_rfl) (by kernel_rfl) (za rfl) s514 rfl (by decide),trivial⟩) ?_
     have s515:x504.2.2.2.length≤1000000:=by exact (hx _ (List.mem_of_getElem? s506)).2.1
     have s516:∀e∈x504.2.2.2,nodes e≤1000000:=by exact (hx _ (List.mem_of_getElem? s506)).2.2
     cases h517:isOk (valsE args x504.2.2.2) with
     | true =>
      refine Or.inl ?_
      obtain ⟨v518,e518⟩:=LX (okOf (valsE args x504.2.2.2))
      refine cx (.o (.c (.ls 1 cI kIc v518))) (zbh x504.2.2.2 args v518 (ok_of h517 e518) s515 s516) rfl ?_
      have s519:mv_.length≤40:=by exact hg.mv
      have s520:3≤v518.length:=by (have hvl:=qN (ok_of h517 e518);have q:=(hx _ (List.mem_of_getElem? s506)).1.k1 s514;omega)
      cases h521:isOk (zJ v518 (pt_,mv_,v510,c_)) with
      | true =>
       refine Or.inl ?_
       obtain ⟨v522,e522⟩:=LX (okOf (zJ v518 (pt_,mv_,v510,c_)))
       refine rx [sI v522.1.1,sI v522.1.2.1,sI v522.1.2.2,sI v522.2.2.1] [pG cM v522.2.1] [oStr w0 v522.2.2.2] (fun t u w=>⟨zeg su x504 v518 (pt_,mv_,v510,c_) v522 s519 s520 (ok_of h521 e522) ⟨rfl,rfl,rfl,rfl,rfl,rfl,rfl⟩ ⟨rfl,rfl,rfl,rfl,rfl,rfl,rfl⟩ rfl rfl rfl rfl,trivial⟩) ?_
       intro v523 e523
       refine nxl (v523,v522.1,v522.2.2.1,v522.2.1,v522.2.2.2) ?_ ?_ rfl
       all_goals (have dh502:=LD e501 h502;have dh508:=LE e507 h508;have dh512:=bne_iff_ne.1 (e511.trans h512);have dh513:=of_decide_eq_true h513;have hkn:n503=k:=(by omega);subst hkn;have hlt:=(List.getElem?_eq_some_iff.1 s506).1;have hd0:0≤dn_:=hg.dn;have hdn:dn_+1=v510:=(by rw [← e510,wri (by omega)]);have hh:handS x504 v518 (pt_,mv_,dn_+1,c_)=.ok v522:=(by rw [hdn,hand1 s514];exact ok_of h521 e522);have hst:stepC su n args (pt_,mv_,dn_,c_) x504=.ok v522:=(zI dh508 dh512 (ok_of h517 e518)).trans hh;rw [zt s506,hst] at hs;dsimp only at hs;have hg2:Gd v522:=zao (s:=(pt_,mv_,dn_,c_)) hh hg (show dn_<1000 by omega);have x3:v523=((n503+1:Nat):Int):=(by rw [← e523,hi,wri (by omega)];omega))
       ·show (v1 - v523).toNat<(v1 - i).toNat
        omega
       ·exact ⟨n503+1,x3,by omega,hg2,hs⟩
      | false =>
       refine Or.inr ?_
       obtain ⟨v522,e522⟩:=LX (errOf (zJ v518 (pt_,mv_,v510,c_)))
       refine rx [.v (.iface 37 (.int .i64 v522))] [] [] (fun t u w=>⟨zeh su x504 v518 (pt_,mv_,v510,c_) v522 s519 s520 (zn h521 e522) ⟨rfl,rfl,rfl,rfl,rfl,rfl,rfl⟩ rfl rfl rfl,trivial⟩) ?_
       have hq:((v522)=er)∧True:=by
        refine ⟨?_,trivial⟩
        (have dh502:=LD e501 h502;have dh508:=LE e507 h508;have dh512:=bne_iff_ne.1 (e511.trans h512);have dh513:=of_decide_eq_true h513;have hkn:n503=k:=(by omega);subst hkn;have hlt:=(List.getElem?_eq_some_iff.1 s506).1;have hd0:0≤dn_:=hg.dn;have hdn:dn_+1=v510:=(by rw [← e510,wri (by omega)]);have hh:handS x504 v518 (pt_,mv_,dn_+1,c_)=.error v522:=(by rw [hdn,hand1 s514];exact zn h521 e522);have hst:stepC su n args (pt_,mv_,dn_,c_) x504=.error v522:=(zI dh508 dh512 (ok_of h517 e518)).trans hh;rw [zt s506,hst] at hs;dsimp only at hs;injection hs)
       obtain ⟨q0,-⟩:=hq
       rw [← q0]
       rfl
     | false =>
      refine Or.inr ?_
      obtain ⟨v518,e518⟩:=LX (errOf (valsE args x504.2.2.2))
      refine rx [.v (.iface 37 (.int .i64 v518))] [] [] (fun t u w=>⟨b_con (pan:=true) (zac x504.2.2.2 args v518 (zn h517 e518) s515 s516),trivial⟩) ?_
      have hq:((v518)=er)∧True:=by
       refine ⟨?_,trivial⟩
       (have dh502:=LD e501 h502;have dh508:=LE e507 h508;have dh512:=bne_iff_ne.1 (e511.trans h512);have dh513:=of_decide_eq_true h513;have hkn:n503=k:=(by omega);subst hkn;have hlt:=(List.getElem?_eq_some_iff.1 s506).1;have hd0:0≤dn_:=hg.dn;have hdn:dn_+1=v510:=(by rw [← e510,wri (by omega)]);have hst:stepC su n args (pt_,mv_,dn_,c_) x504=.error v518:=qG dh508 dh512 (zn h517 e518);rw [zt s506,hst] at hs;dsimp only at hs;injection hs)
      obtain ⟨q0,-⟩:=hq
      rw [← q0]
      rfl
    | false =>
     refine Or.inr ?_
     cases h514:decide (x504.1=2) with
     | true =>
      refine Or.inl ?_
      have s515:x504.1=(2:Int):=by (have dh502:=LD e501 h502;have dh508:=LE e507 h508;have dh512:=bne_iff_ne.1 (e511.trans h512);have dh513:=of_decide_eq_false h513;have dh514:=of_decide_eq_true h514;have q:=(hx _ (List.mem_of_getElem? s506)).1.kind;omega)
      refine rx [] [] [] (fun t u w=>⟨e_ixH (E:=135) (n:=5) (i:=2) (ls:=[.k (.nilFunc),.q 109 [],.q 110 [],.q 111 [],.q 112 []]) (by kernel_rfl) (by kernel_rfl) (by kernel_rfl) (za rfl) s515 rfl (by decide),trivial⟩) ?_
      have s516:x504.2.2.2.length≤1000000:=by exact (hx _ (List.mem_of_getElem? s506)).2.1
      have s517:∀e∈x504.2.2.2,nodes e≤1000000:=by exact (hx _ (List.mem_of_getElem? s506)).2.2
      cases h518:isOk (valsE args x504.2.2.2) with
      | true =>
       refine Or.inl ?_
       obtain ⟨v519,e519⟩:=LX (okOf (valsE args x504.2.2.2))
       refine cx (.o (.c (.ls 1 cI kIc v519))) (zbh x504.2.2.2 args v519 (ok_of h518 e519) s516 s517) rfl ?_
       have s520:mv_.length≤40:=by exact hg.mv
       have s521:4≤v519.length:=by (have hvl:=qN (ok_of h518 e519);have q:=(hx _ (List.mem_of_getElem? s506)).1.k2 s515;omega)
       have s522:∀d,c_=some d→d.2.2.1.length≤1000∧d.2.2.2.length≤1000:=by (have dh502:=LD e501 h502;have dh508:=LE e507 h508;have dh512:=bne_iff_ne.1 (e511.trans h512);have dh513:=of_decide_eq_false h513;have dh514:=of_decide_eq_true h514;intro d hd;have h1:=(hg.c d hd).1;have h2:(d.2.2.1.length:Int)≤dn_:=(hg.c d hd).2;exact ⟨by omega,by omega⟩)
       cases h523:isOk (lineS v519 (pt_,mv_,v510,c_)) with
       | true =>
        refine Or.inl ?_
        obtain ⟨v524,e524⟩:=LX (okOf (lineS v519 (pt_,mv_,v510,c_)))
        refine rx [sI v524.1.1,sI v524.1.2.1,sI v524.1.2.2,sI v524.2.2.1] [pG cM v524.2.1] [oStr w0 v524.2.2.2] (fun t u w=>⟨zgm su x504 v519 (pt_,mv_,v510,c_) v524 s520 s521 s522 (ok_of h523 e524) ⟨rfl,rfl,rfl,rfl,rfl,rfl,rfl⟩ ⟨rfl,rfl,rfl,rfl,rfl,rfl,rfl⟩ rfl rfl rfl rfl,trivial⟩) ?_
        intro v525 e525
        refine nxl (v525,v524.1,v524.2.2.1,v524.2.1,v524.2.2.2) ?_ ?_ rfl
        all_goals (have dh502:=LD e501 h502;have dh508:=LE e507 h508;have dh512:=bne_iff_ne.1 (e511.trans h512);have dh513:=of_decide_eq_false h513;have dh514:=of_decide_eq_true h514;have hkn:n503=k:=(by omega);subst hkn;have hlt:=(List.getElem?_eq_some_iff.1 s506).1;have hd0:0≤dn_:=hg.dn;have hdn:dn_+1=v510:=(by rw [← e510,wri (by omega)]);have hh:handS x504 v519 (pt_,mv_,dn_+1,c_)=.ok v524:=(by rw [hdn,hand2 s515];exact ok_of h523 e524);have hst:stepC su n args (pt_,mv_,dn_,c_) x504=.ok v524:=(zI dh508 dh512 (ok_of h518 e519)).trans hh;rw [zt s506,hst] at hs;dsimp only at hs;have hg2:Gd v524:=zao (s:=(pt_,mv_,dn_,c_)) hh hg (show dn_<1000 by omega);have x3:v525=((n503+1:Nat):Int):=(by rw [← e525,hi,wri (by omega)];omega))
        ·show (v1 - v525).toNat<(v1 - i).toNat
         omega
        ·exact ⟨n503+1,x3,by omega,hg2,hs⟩
       | false =>
        refine Or.inr ?_
        obtain ⟨v524,e524⟩:=LX (errOf (lineS v519 (pt_,mv_,v510,c_)))
        refine rx [.v (.iface 37 (.int .i64 v524))] [] [] (fun t u w=>⟨zgn su x504 v519 (pt_,mv_,v510,c_) v524 s520 s521 s522 (zn h523 e524) ⟨rfl,rfl,rfl,rfl,rfl,rfl,rfl⟩ rfl rfl rfl,trivial⟩) ?_
        have hq:((v524)=er)∧True:=by
         refine ⟨?_,trivial⟩
         (have dh502:=LD e501 h502;have dh508:=LE e507 h508;have dh512:=bne_iff_ne.1 (e511.trans h512);have dh513:=of_decide_eq_false h513;have dh514:=of_decide_eq_true h514;have hkn:n503=k:=(by omega);subst hkn;have hlt:=(List.getElem?_eq_some_iff.1 s506).1;have hd0:0≤dn_:=hg.dn;have hdn:dn_+1=v510:=(by rw [← e510,wri (by omega)]);have hh:handS x504 v519 (pt_,mv_,dn_+1,c_)=.error v524:=(by rw [hdn,hand2 s515];exact zn h523 e524);have hst:stepC su n args (pt_,mv_,dn_,c_) x504=.error v524:=(zI dh508 dh512 (ok_of h518 e519)).trans hh;rw [zt s506,hst] at hs;dsimp only at hs;injection hs)
        obtain ⟨q0,-⟩:=hq
        rw [← q0]
        rfl
      | false =>
       refine Or.inr ?_
       obtain ⟨v519,e519⟩:=LX (errOf (valsE args x504.2.2.2))
       refine rx [.v (.iface 37 (.int .i64 v519))] [] [] (fun t u w=>⟨b_con (pan:=true) (zac x504.2.2.2 args v519 (zn h518 e519) s516 s517),trivial⟩) ?_
       have hq:((v519)=er)∧True:=by
        refine ⟨?_,trivial⟩
        (have dh502:=LD e501 h502;have dh508:=LE e507 h508;have dh512:=bne_iff_ne.1 (e511.trans h512);have dh513:=of_decide_eq_false h513;have dh514:=of_decide_eq_true h514;have hkn:n503=k:=(by omega);subst hkn;have hlt:=(List.getElem?_eq_some_iff.1 s506).1;have hd0:0≤dn_:=hg.dn;have hdn:dn_+1=v510:=(by rw [← e510,wri (by omega)]);have hst:stepC su n args (pt_,mv_,dn_,c_) x504=.error v519:=qG dh508 dh512 (zn h518 e519);rw [zt s506,hst] at hs;dsimp only at hs;injection hs)
       obtain ⟨q0,-⟩:=hq
       rw [← q0]
       rfl
     | false =>
      refine Or.inr ?_
      cases h515:decide (x504.1=3) with
      | true =>
       refine Or.inl ?_
       have s516:x504.1=(3:Int):=by (have dh502:=LD e501 h502;have dh508:=LE e507 h508;have dh512:=bne_iff_ne.1 (e511.trans h512);have dh513:=of_decide_eq_false h513;have dh514:=of_decide_eq_false h514;have dh515:=of_decide_eq_true h515;have q:=(hx _ (List.mem_of_getElem? s506)).1.kind;omega)
       refine rx [] [] [] (fun t u w=>⟨e_ixH (E:=135) (n:=5) (i:=3) (ls:=[.k (.nilFunc),.q 109 [],.q 110 [],.q 111 [],.q 112 []]) (by kernel_rfl) (by kernel_rfl) (by kernel_rfl) (za rfl) s516 rfl (by decide),trivial⟩) ?_
       have s517:x504.2.2.2.length≤1000000:=by exact (hx _ (List.mem_of_getElem? s506)).2.1
       have s518:∀e∈x504.2.2.2,nodes e≤1000000:=by exact (hx _ (List.mem_of_getElem? s506)).2.2
       cases h519:isOk (valsE args x504.2.2.2) with
       | true =>
        refine Or.inl ?_
        obtain ⟨v520,e520⟩:=LX (okOf (valsE args x504.2.2.2))
        refine cx (.o (.c (.ls 1 cI kIc v520))) (zbh x504.2.2.2 args v520 (ok_of h519 e520) s517 s518) rfl ?_
        have s521:mv_.length≤40:=by exact hg.mv
        have s522:7≤v520.length:=by (have hvl:=qN (ok_of h519 e520);have q:=(hx _ (List.mem_of_getElem? s506)).1.k3 s516;omega)
        cases h523:isOk (arcS v520 (pt_,mv_,v510,c_)) with
        | true =>
         refine Or.inl ?_
         obtain ⟨v524,e524⟩:=LX (okOf (arcS v520 (pt_,mv_,v510,c_)))
         refine rx [sI v524.1.1,sI v524.1.2.1,sI v524.1.2.2,sI v524.2.2.1] [pG cM v524.2.1] [oStr w0 v524.2.2.2] (fun t u w=>⟨zjo su x504 v520 (pt_,mv_,v510,c_) v524 s521 s522 (ok_of h523 e524) ⟨rfl,rfl,rfl,rfl,rfl,rfl,rfl⟩ ⟨rfl,rfl,rfl,rfl,rfl,rfl,rfl⟩ rfl rfl rfl rfl,trivial⟩) ?_
         intro v525 e525
         refine nxl (v525,v524.1,v524.2.2.1,v524.2.1,v524.2.2.2) ?_ ?_ rfl
         all_goals (have dh502:=LD e501 h502;have dh508:=LE e507 h508;have dh512:=bne_iff_ne.1 (e511.trans h512);have dh513:=of_decide_eq_false h513;have dh514:=of_decide_eq_false h514;have dh515:=of_decide_eq_true h515;have hkn:n503=k:=(by omega);subst hkn;have hlt:=(List.getElem?_eq_some_iff.1 s506).1;have hd0:0≤dn_:=hg.dn;have hdn:dn_+1=v510:=(by rw [← e510,wri (by omega)]);have hh:handS x504 v520 (pt_,mv_,dn_+1,c_)=.ok v524:=(by rw [hdn,hand3 s516];exact ok_of h523 e524);have hst:stepC su n args (pt_,mv_,dn_,c_) x504=.ok v524:=(zI dh508 dh512 (ok_of h519 e520)).trans hh;rw [zt s506,hst] at hs;dsimp only at hs;have hg2:Gd v524:=zao (s:=(pt_,mv_,dn_,c_)) hh hg (show dn_<1000 by omega);have x3:v525=((n503+1:Nat):Int):=(by rw [← e525,hi,wri (by omega)];omega))
         ·show (v1 - v525).toNat<(v1 - i).toNat
          omega
         ·exact ⟨n503+1,x3,by omega,hg2,hs⟩
        | false =>
         refine Or.inr ?_
         obtain ⟨v524,e524⟩:=LX (errOf (arcS v520 (pt_,mv_,v510,c_)))
         refine rx [.v (.iface 37 (.int .i64 v524))] [] [] (fun t u w=>⟨zjp su x504 v520 (pt_,mv_,v510,c_) v524 s521 s522 (zn h523 e524) ⟨rfl,rfl,rfl,rfl,rfl,rfl,rfl⟩ rfl rfl rfl,trivial⟩) ?_
         have hq:((v524)=er)∧True:=by
          refine ⟨?_,trivial⟩
          (have dh502:=LD e501 h502;have dh508:=LE e507 h508;have dh512:=bne_iff_ne.1 (e511.trans h512);have dh513:=of_decide_eq_false h513;have dh514:=of_decide_eq_false h514;have dh515:=of_decide_eq_true h515;have hkn:n503=k:=(by omega);subst hkn;have hlt:=(List.getElem?_eq_some_iff.1 s506).1;have hd0:0≤dn_:=hg.dn;have hdn:dn_+1=v510:=(by rw [← e510,wri (by omega)]);have hh:handS x504 v520 (pt_,mv_,dn_+1,c_)=.error v524:=(by rw [hdn,hand3 s516];exact zn h523 e524);have hst:stepC su n args (pt_,mv_,dn_,c_) x504=.error v524:=(zI dh508 dh512 (ok_of h519 e520)).trans hh;rw [zt s506,hst] at hs;dsimp only at hs;injection hs)
         obtain ⟨q0,-⟩:=hq
         rw [← q0]
         rfl
       | false =>
        refine Or.inr ?_
        obtain ⟨v520,e520⟩:=LX (errOf (valsE args x504.2.2.2))
        refine rx [.v (.iface 37 (.int .i64 v520))] [] [] (fun t u w=>⟨b_con (pan:=true) (zac x504.2.2.2 args v520 (zn h519 e520) s517 s518),trivial⟩) ?_
        have hq:((v520)=er)∧True:=by
         refine ⟨?_,trivial⟩
         (have dh502:=LD e501 h502;have dh508:=LE e507 h508;have dh512:=bne_iff_ne.1 (e511.trans h512);have dh513:=of_decide_eq_false h513;have dh514:=of_decide_eq_false h514;have dh515:=of_decide_eq_true h515;have hkn:n503=k:=(by omega);subst hkn;have hlt:=(List.getElem?_eq_some_iff.1 s506).1;have hd0:0≤dn_:=hg.dn;have hdn:dn_+1=v510:=(by rw [← e510,wri (by omega)]);have hst:stepC su n args (pt_,mv_,dn_,c_) x504=.error v520:=qG dh508 dh512 (zn h519 e520);rw [zt s506,hst] at hs;dsimp only at hs;injection hs)
        obtain ⟨q0,-⟩:=hq
        rw [← q0]
        rfl
      | false =>
       refine Or.inr ?_
       have s516:x504.1=(4:Int):=by (have dh502:=LD e501 h502;have dh508:=LE e507 h508;have dh512:=bne_iff_ne.1 (e511.trans h512);have dh513:=of_decide_eq_false h513;have dh514:=of_decide_eq_false h514;have dh515:=of_decide_eq_false h515;have q:=(hx _ (List.mem_of_getElem? s506)).1.kind;omega)
       refine rx [] [] [] (fun t u w=>⟨e_ixH (E:=135) (n:=5) (i:=4) (ls:=[.k (.nilFunc),.q 109 [],.q 110 [],.q 111 [],.q 112 []]) (by kernel_rfl) (by kernel_rfl) (by kernel_rfl) (za rfl) s516 rfl (by decide),trivial⟩) ?_
       have s517:x504.2.2.2.length≤1000000:=by exact (hx _ (List.mem_of_getElem? s506)).2.1
       have s518:∀e∈x504.2.2.2,nodes e≤1000000:=by exact (hx _ (List.mem_of_getElem? s506)).2.2
       cases h519:isOk (valsE args x504.2.2.2) with
       | true =>
        refine Or.inl ?_
        obtain ⟨v520,e520⟩:=LX (okOf (valsE args x504.2.2.2))
        refine cx (.o (.c (.ls 1 cI kIc v520))) (zbh x504.2.2.2 args v520 (ok_of h519 e520) s517 s518) rfl ?_
        have s521:mv_.length≤40:=by exact hg.mv
        have s522:x504.2.1≠0→1≤v520.length:=by (intro hn;have hvl:=qN (ok_of h519 e520);have q:=(hx _ (List.mem_of_getElem? s506)).1.k4 s516 hn;omega)
        have s523:∀d,c_=some d→d.2.2.1.length≤1000∧d.2.2.2.length=d.2.2.1.length:=by (have dh502:=LD e501 h502;have dh508:=LE e507 h508;have dh512:=bne_iff_ne.1 (e511.trans h512);have dh513:=of_decide_eq_false h513;have dh514:=of_decide_eq_false h514;have dh515:=of_decide_eq_false h515;intro d hd;have h1:=(hg.c d hd).1;have h2:(d.2.2.1.length:Int)≤dn_:=(hg.c d hd).2;exact ⟨by omega,by omega⟩)
        cases h524:isOk (turnS x504.2.1 v520 (pt_,mv_,v510,c_)) with
        | true =>
         refine Or.inl ?_
         obtain ⟨v525,e525⟩:=LX (okOf (turnS x504.2.1 v520 (pt_,mv_,v510,c_)))
         refine rx [sI v525.1.1,sI v525.1.2.1,sI v525.1.2.2,sI v525.2.2.1] [pG cM v525.2.1] [oStr w0 v525.2.2.2] (fun t u w=>⟨zgy su x504 v520 (pt_,mv_,v510,c_) v525 s521 s522 s523 (ok_of h524 e525) ⟨rfl,rfl,rfl,rfl,rfl,rfl,rfl⟩ ⟨rfl,rfl,rfl,rfl,rfl,rfl,rfl⟩ rfl rfl rfl rfl,trivial⟩) ?_
         intro v526 e526
         refine nxl (v526,v525.1,v525.2.2.1,v525.2.1,v525.2.2.2) ?_ ?_ rfl
         all_goals (have dh502:=LD e501 h502;have dh508:=LE e507 h508;have dh512:=bne_iff_ne.1 (e511.trans h512);have dh513:=of_decide_eq_false h513;have dh514:=of_decide_eq_false h514;have dh515:=of_decide_eq_false h515;have hkn:n503=k:=(by omega);subst hkn;have hlt:=(List.getElem?_eq_some_iff.1 s506).1;have hd0:0≤dn_:=hg.dn;have hdn:dn_+1=v510:=(by rw [← e510,wri (by omega)]);have hh:handS x504 v520 (pt_,mv_,dn_+1,c_)=.ok v525:=(by rw [hdn,hand4 s516];exact ok_of h524 e525);have hst:stepC su n args (pt_,mv_,dn_,c_) x504=.ok v525:=(zI dh508 dh512 (ok_of h519 e520)).trans hh;rw [zt s506,hst] at hs;dsimp only at hs;have hg2:Gd v525:=zao (s:=(pt_,mv_,dn_,c_)) hh hg (show dn_<1000 by omega);have x3:v526=((n503+1:Nat):Int):=(by rw [← e526,hi,wri (by omega)];omega))
         ·show (v1 - v526).toNat<(v1 - i).toNat
          omega
         ·exact ⟨n503+1,x3,by omega,hg2,hs⟩
        | false =>
         refine Or.inr ?_
         obtain ⟨v525,e525⟩:=LX (errOf (turnS x504.2.1 v520 (pt_,mv_,v510,c_)))
         refine rx [.v (.iface 37 (.int .i64 v525))] [] [] (fun t u w=>⟨zgz su x504 v520 (pt_,mv_,v510,c_) v525 s521 s522 s523 (zn h524 e525) ⟨rfl,rfl,rfl,rfl,rfl,rfl,rfl⟩ rfl rfl rfl,trivial⟩) ?_
         have hq:((v525)=er)∧True:=by
          refine ⟨?_,trivial⟩
          (have dh502:=LD e501 h502;have dh508:=LE e507 h508;have dh512:=bne_iff_ne.1 (e511.trans h512);have dh513:=of_decide_eq_false h513;have dh514:=of_decide_eq_false h514;have dh515:=of_decide_eq_false h515;have hkn:n503=k:=(by omega);subst hkn;have hlt:=(List.getElem?_eq_some_iff.1 s506).1;have hd0:0≤dn_:=hg.dn;have hdn:dn_+1=v510:=(by rw [← e510,wri (by omega)]);have hh:handS x504 v520 (pt_,mv_,dn_+1,c_)=.error v525:=(by rw [hdn,hand4 s516];exact zn h524 e525);have hst:stepC su n args (pt_,mv_,dn_,c_) x504=.error v525:=(zI dh508 dh512 (ok_of h519 e520)).trans hh;rw [zt s506,hst] at hs;dsimp only at hs;injection hs)
         obtain ⟨q0,-⟩:=hq
         rw [← q0]
         rfl
       | false =>
        refine Or.inr ?_
        obtain ⟨v520,e520⟩:=LX (errOf (valsE args x504.2.2.2))
        refine rx [.v (.iface 37 (.int .i64 v520))] [] [] (fun t u w=>⟨b_con (pan:=true) (zac x504.2.2.2 args v520 (zn h519 e520) s517 s518),trivial⟩) ?_
        have hq:((v520)=er)∧True:=by
         refine ⟨?_,trivial⟩
         (have dh502:=LD e501 h502;have dh508:=LE e507 h508;have dh512:=bne_iff_ne.1 (e511.trans h512);have dh513:=of_decide_eq_false h513;have dh514:=of_decide_eq_false h514;have dh515:=of_decide_eq_false h515;have hkn:n503=k:=(by omega);subst hkn;have hlt:=(List.getElem?_eq_some_iff.1 s506).1;have hd0:0≤dn_:=hg.dn;have hdn:dn_+1=v510:=(by rw [← e510,wri (by omega)]);have hst:stepC su n args (pt_,mv_,dn_,c_) x504=.error v520:=qG dh508 dh512 (zn h519 e520);rw [zt s506,hst] at hs;dsimp only at hs;injection hs)
        obtain ⟨q0,-⟩:=hq
        rw [← q0]
        rfl
   ·
    cases h513:(su.find? (fun y=>y.1 == x504.2.2.1)).isSome with
    | true =>
     refine Or.inl ?_
     obtain ⟨y514,s515⟩:∃(y514:(List UInt8×Sb)),su.find? (fun y=>y.1 == x504.2.2.1)=some y514:=by exact Option.isSome_iff_exists.1 h513
     refine rx [sS y514.2.1,sI y514.2.2.1,.ls 4 cSt kSt y514.2.2.2] [] [] (fun t u w=>⟨e_lkY (Kt:=9) (E:=56) (by kernel_rfl) (by kernel_rfl) rfl (za rfl) s515 (fun β W v ⟨u,e,h⟩=>⟨_,e,rfl,rfl,h,trivial⟩) zf,trivial⟩) ?_
     intro v516 e516 v517 e517
     refine ai (fun h518=>?_) fun h518=>?_
     ·
      have s519:(true && ((18:Int) != 0))=true:=by rfl
      refine rx [.v (.iface 37 (.int .i64 (18:Int)))] [] [] (fun t u w=>⟨b_con (pan:=true) (zh true (18:Int) (18:Int) rfl s519),trivial⟩) ?_
      have hq:(((18:Int))=er)∧True:=by
       refine ⟨?_,trivial⟩
       (have dh502:=LD e501 h502;have dh508:=LE e507 h508;have dh512:=bne_eq_false_iff_eq.1 (e511.trans h512);have dh518:=bne_iff_ne.1 (e517.trans h518);have hkn:n503=k:=(by omega);subst hkn;have hlt:=(List.getElem?_eq_some_iff.1 s506).1;have hd0:0≤dn_:=hg.dn;have hdn:dn_+1=v510:=(by rw [← e510,wri (by omega)]);have hz:=e516;have hst:stepC su n args (pt_,mv_,dn_,c_) x504=.error 18:=zb6 dh508 dh512 s515 (by omega);rw [zt s506,hst] at hs;dsimp only at hs;injection hs)
      obtain ⟨q0,-⟩:=hq
      rw [← q0]
      rfl
     ·
      intro v519 e519
      refine ai (fun h520=>?_) fun h520=>?_
      ·
       have s521:(v519 && ((18:Int) != 0))=true:=by (rw [h520];rfl)
       refine rx [.v (.iface 37 (.int .i64 (18:Int)))] [] [] (fun t u w=>⟨b_con (pan:=true) (zh v519 (18:Int) (18:Int) rfl s521),trivial⟩) ?_
       have hq:(((18:Int))=er)∧True:=by
        refine ⟨?_,trivial⟩
        (have dh502:=LD e501 h502;have dh508:=LE e507 h508;have dh512:=bne_eq_false_iff_eq.1 (e511.trans h512);have dh518:=bne_eq_false_iff_eq.1 (e517.trans h518);have dh520:=LD e519 h520;have hkn:n503=k:=(by omega);subst hkn;have hlt:=(List.getElem?_eq_some_iff.1 s506).1;have hd0:0≤dn_:=hg.dn;have hdn:dn_+1=v510:=(by rw [← e510,wri (by omega)]);have hz:=e516;have hst:stepC su n args (pt_,mv_,dn_,c_) x504=.error 18:=zb6 dh508 dh512 s515 (by omega);rw [zt s506,hst] at hs;dsimp only at hs;injection hs)
       obtain ⟨q0,-⟩:=hq
       rw [← q0]
       rfl
      ·
       have s521:(v519 && ((18:Int) != 0))=false:=by (rw [h520];rfl)
       refine cx (.t []) (zv v519 (18:Int) s521) rfl ?_
       have s522:x504.2.2.2.length≤1000000:=by exact (hx _ (List.mem_of_getElem? s506)).2.1
       have s523:∀e∈x504.2.2.2,nodes e≤1000000:=by exact (hx _ (List.mem_of_getElem? s506)).2.2
       cases h524:isOk (valsE args x504.2.2.2) with
       | true =>
        refine Or.inl ?_
        obtain ⟨v525,e525⟩:=LX (okOf (valsE args x504.2.2.2))
        refine cx (.o (.c (.ls 1 cI kIc v525))) (zbh x504.2.2.2 args v525 (ok_of h524 e525) s522 s523) rfl ?_
        intro v526 e526
        have s527:zax w0 su n:=by (have dh502:=LD e501 h502;have dh508:=LE e507 h508;have dh512:=bne_eq_false_iff_eq.1 (e511.trans h512);have dh518:=bne_eq_false_iff_eq.1 (e517.trans h518);have dh520:=LE e519 h520;exact IH (by omega))
        have s528:n≤7:=by (have dh502:=LD e501 h502;have dh508:=LE e507 h508;have dh512:=bne_eq_false_iff_eq.1 (e511.trans h512);have dh518:=bne_eq_false_iff_eq.1 (e517.trans h518);have dh520:=LE e519 h520;omega)
        have s529:v526=7 - (n:Int):=by (have dh502:=LD e501 h502;have dh508:=LE e507 h508;have dh512:=bne_eq_false_iff_eq.1 (e511.trans h512);have dh518:=bne_eq_false_iff_eq.1 (e517.trans h518);have dh520:=LE e519 h520;rw [← e526,wri (by omega)];omega)
        have s530:y514.2.2.2.length≤1000000:=by exact (hsu _ (List.mem_of_find?_eq_some s515)).1
        have s531:∀x∈y514.2.2.2,StOk x:=by exact (hsu _ (List.mem_of_find?_eq_some s515)).2
        have s532:Gd (pt_,mv_,v510,c_):=by (have dh502:=LD e501 h502;have dh508:=LE e507 h508;have dh512:=bne_eq_false_iff_eq.1 (e511.trans h512);have dh518:=bne_eq_false_iff_eq.1 (e517.trans h518);have dh520:=LE e519 h520;have hd0:0≤dn_:=hg.dn;have e:v510=dn_+1:=(by rw [← e510,wri (by omega)]);rw [e];exact zd0 hg (show dn_<1000 by omega))
        cases h533:isOk (zB su n y514.2.2.2 v525 (pt_,mv_,v510,c_)) with
        | true =>
         refine Or.inl ?_
         obtain ⟨v534,e534⟩:=LX (okOf (zB su n y514.2.2.2 v525 (pt_,mv_,v510,c_)))
         refine rx [sI v534.1.1,sI v534.1.2.1,sI v534.1.2.2,sI v534.2.2.1] [pG cM v534.2.1] [oStr w0 v534.2.2.2] (fun t u w=>⟨zbw su y514.2.2.2 v525 v526 (pt_,mv_,v510,c_) v534 s527 s528 s529 s530 s531 s532 (ok_of h533 e534) ⟨rfl,rfl,rfl,rfl,rfl,rfl,rfl⟩ ⟨rfl,rfl,rfl,rfl,rfl,rfl,rfl⟩ rfl rfl rfl rfl,trivial⟩) ?_
         intro v535 e535
         refine nxl (v535,v534.1,v534.2.2.1,v534.2.1,v534.2.2.2) ?_ ?_ rfl
         all_goals (have dh502:=LD e501 h502;have dh508:=LE e507 h508;have dh512:=bne_eq_false_iff_eq.1 (e511.trans h512);have dh518:=bne_eq_false_iff_eq.1 (e517.trans h518);have dh520:=LE e519 h520;have hkn:n503=k:=(by omega);subst hkn;have hlt:=(List.getElem?_eq_some_iff.1 s506).1;have hd0:0≤dn_:=hg.dn;have hdn:dn_+1=v510:=(by rw [← e510,wri (by omega)]);have hz:=e516;have hb:¬ (y514.2.2.1≠(x504.2.2.2.length:Int)∨n=0):=(by omega);have hh:zB su n y514.2.2.2 v525 (pt_,mv_,dn_+1,c_)=.ok v534:=(by rw [hdn];exact ok_of h533 e534);have hst:stepC su n args (pt_,mv_,dn_,c_) x504=.ok v534:=(zb7 dh508 dh512 s515 hb (ok_of h524 e525)).trans hh;rw [zt s506,hst] at hs;dsimp only at hs;have hg2:Gd v534:=za1 n _ _ _ _ hh (zd0 (s:=(pt_,mv_,dn_,c_)) hg (show dn_<1000 by omega));have x3:v535=((n503+1:Nat):Int):=(by rw [← e535,hi,wri (by omega)];omega))
         ·show (v1 - v535).toNat<(v1 - i).toNat
          omega
         ·exact ⟨n503+1,x3,by omega,hg2,hs⟩
        | false =>
         refine Or.inr ?_
         obtain ⟨v534,e534⟩:=LX (errOf (zB su n y514.2.2.2 v525 (pt_,mv_,v510,c_)))
         refine rx [.v (.iface 37 (.int .i64 v534))] [] [] (fun t u w=>⟨zbx su y514.2.2.2 v525 v526 (pt_,mv_,v510,c_) v534 s527 s528 s529 s530 s531 s532 (zn h533 e534) ⟨rfl,rfl,rfl,rfl,rfl,rfl,rfl⟩ rfl rfl rfl,trivial⟩) ?_
         have hq:((v534)=er)∧True:=by
          refine ⟨?_,trivial⟩
          (have dh502:=LD e501 h502;have dh508:=LE e507 h508;have dh512:=bne_eq_false_iff_eq.1 (e511.trans h512);have dh518:=bne_eq_false_iff_eq.1 (e517.trans h518);have dh520:=LE e519 h520;have hkn:n503=k:=(by omega);subst hkn;have hlt:=(List.getElem?_eq_some_iff.1 s506).1;have hd0:0≤dn_:=hg.dn;have hdn:dn_+1=v510:=(by rw [← e510,wri (by omega)]);have hz:=e516;have hb:¬ (y514.2.2.1≠(x504.2.2.2.length:Int)∨n=0):=(by omega);have hh:zB su n y514.2.2.2 v525 (pt_,mv_,dn_+1,c_)=.error v534:=(by rw [hdn];exact zn h533 e534);have hst:stepC su n args (pt_,mv_,dn_,c_) x504=.error v534:=(zb7 dh508 dh512 s515 hb (ok_of h524 e525)).trans hh;rw [zt s506,hst] at hs;dsimp only at hs;injection hs)
         obtain ⟨q0,-⟩:=hq
         rw [← q0]
         rfl
       | false =>
        refine Or.inr ?_
        obtain ⟨v525,e525⟩:=LX (errOf (valsE args x504.2.2.2))
        refine rx [.v (.iface 37 (.int .i64 v525))] [] [] (fun t u w=>⟨b_con (pan:=true) (zac x504.2.2.2 args v525 (zn h524 e525) s522 s523),trivial⟩) ?_
        intro v526 e526
        have hq:((v525)=er)∧True:=by
         refine ⟨?_,trivial⟩
         (have dh502:=LD e501 h502;have dh508:=LE e507 h508;have dh512:=bne_eq_false_iff_eq.1 (e511.trans h512);have dh518:=bne_eq_false_iff_eq.1 (e517.trans h518);have dh520:=LE e519 h520;have hkn:n503=k:=(by omega);subst hkn;have hlt:=(List.getElem?_eq_some_iff.1 s506).1;have hd0:0≤dn_:=hg.dn;have hdn:dn_+1=v510:=(by rw [← e510,wri (by omega)]);have hz:=e516;have hb:¬ (y514.2.2.1≠(x504.2.2.2.length:Int)∨n=0):=(by omega);have hst:stepC su n args (pt_,mv_,dn_,c_) x504=.error v525:=zgc dh508 dh512 s515 hb (zn h524 e525);rw [zt s506,hst] at hs;dsimp only at hs;injection hs)
        obtain ⟨q0,-⟩:=hq
        rw [← q0]
        rfl
    | false =>
     refine Or.inr ?_
     have s514:su.find? (fun y=>y.1 == x504.2.2.1)=none:=by (cases hq:su.find? (fun y=>y.1 == x504.2.2.1) with | none=>rfl | some y=>rw [hq] at h513;cases h513)
     refine rx [] [] [] (fun t u w=>⟨e_lkN (Kt:=9) (E:=56) (z:=#[.string ⟨#[]⟩,.int .i64 0,.slice none 0 0]) (by kernel_rfl) (by kernel_rfl) (fun W=>by kernel_rfl) rfl (za rfl) s514 rfl,trivial⟩) ?_
     have s515:(true && ((18:Int) != 0))=true:=by rfl
     refine rx [.v (.iface 37 (.int .i64 (18:Int)))] [] [] (fun t u w=>⟨b_con (pan:=true) (zh true (18:Int) (18:Int) rfl s515),trivial⟩) ?_
     have hq:(((18:Int))=er)∧True:=by
      refine ⟨?_,trivial⟩
      (have dh502:=LD e501 h502;have dh508:=LE e507 h508;have dh512:=bne_eq_false_iff_eq.1 (e511.trans h512);have hkn:n503=k:=(by omega);subst hkn;have hlt:=(List.getElem?_eq_some_iff.1 s506).1;have hd0:0≤dn_:=hg.dn;have hdn:dn_+1=v510:=(by rw [← e510,wri (by omega)]);have hst:stepC su n args (pt_,mv_,dn_,c_) x504=.error 18:=zgb dh508 dh512 s514;rw [zt s506,hst] at hs;dsimp only at hs;injection hs)
     obtain ⟨q0,-⟩:=hq
     rw [← q0]
     rfl
 ·
  exfalso
  (have dh502:=LE e501 h502;have hkl:k=l.length:=(by omega);subst hkl;rw [List.drop_length] at hs;cases hs)
def ze7:Tr:=.s [(1,.ln 54 3 5)] (.r (.s [(0,.lp caA_S 0 4)] (.z (.ret false (.t []) (rnA 0 9 10 11 12 1 1)))) (.s [(0,.lp caB_S 0 1)] (.z .no)))
theorem zhO {w0:World} (su:(List (List UInt8×Sb))) (pt:Vec) (mv:(List Mov)) (dn:Int) (c:(Option Str)) (l:(List Stm)) (args:(List Int)) (cl:Int) (n:Nat) (hl:l.length≤1000000) (hx:∀x∈l,StOk x) (hsu:SuOk su) (IH:n≠0→zax w0 su n) (hn:n≤6) (hcl:cl=6 - (n:Int)) (hg:Gd (pt,mv,dn,c)) (s':Rn) (hr:zB su (n+1) l args (pt,mv,dn,c)=.ok s'):RF w0 56 [.o (.c (pLs cSt l)),.o (.c (pLs cI args)),.o (.c (pI cl))] su (pt,mv,dn,c) s' (.t []):=by
 refine tfn w0 56 ⟨[LF (.p 900 0),5,6,7],(rnA 0 1 2 3 4 0 0),[],0,0⟩ ⟨8,[sI cl,.ls 1 cI kIc args,.ls 4 cSt kSt l,sI dn,sI pt.2.2,sI pt.2.1,sI pt.1,.q (pSu su)],[pG cM mv],[oStr w0 c]⟩ ze7 (by kernel_rfl) ?_
 intro v1 e1
 by_cases c1:isOk (zB su (n+1) l args (pt,mv,dn,c))=true
 ·
  refine Or.inl ?_
  obtain ⟨pt2,dn2,mv2,c2,hO_caA⟩:∃(pt2:Vec) (dn2:Int) (mv2:(List Mov)) (c2:(Option Str)),zB su (n+1) l args (pt,mv,dn,c)=.ok (pt2,mv2,dn2,c2):=(by cases h:zB su (n+1) l args (pt,mv,dn,c) with | ok r=>exact ⟨r.1,r.2.2.1,r.2.1,r.2.2.2,rfl⟩ | error e=>rw [h] at c1;cases c1)
  refine rx [sI pt2.1,sI pt2.2.1,sI pt2.2.2,sI dn2] [pG cM mv2] [oStr w0 c2] (zoU su pt mv dn c l args cl n v1  pt2 dn2 mv2 c2  e1 hl hx hsu IH hn hcl hg hO_caA) ?_
  intro hc
  have hq:s'=(pt2,mv2,dn2,c2):=by
   (rw [hO_caA] at hr;injection hr with hr;exact hr.symm)
  rw [hq]
  exact rf_of (su:=su) (s:=(pt,mv,dn,c)) (s':=(pt2,mv2,dn2,c2)) (hc) ⟨rfl,rfl,rfl,rfl,rfl,rfl,rfl⟩ ⟨rfl,rfl,rfl,rfl,rfl,rfl,rfl⟩ rfl rfl rfl rfl
 ·
  refine Or.inr ?_
  obtain ⟨er,hO_caB⟩:∃(er:Int),zB su (n+1) l args (pt,mv,dn,c)=.error er:=(by cases h:zB su (n+1) l args (pt,mv,dn,c) with | ok r=>rw [h] at c1;exact absurd rfl c1 | error e=>exact ⟨e,rfl⟩)
  refine rx [.v (.iface 37 (.int .i64 er))] [] [] (zoV su pt mv dn c l args cl n v1  er  e1 hl hx hsu IH hn hcl hg hO_caB) ?_
  exfalso
  (rw [hO_caB] at hr;cases hr)
def zdJ:Tr:=.s [(1,.ln 54 3 5)] (.r (.s [(0,.lp caA_S 0 4)] (.z .no)) (.s [(0,.lp caB_S 0 1)] (.z (.ret true (9) []))))
theorem zgi {w0:World} (su:(List (List UInt8×Sb))) (pt:Vec) (mv:(List Mov)) (dn:Int) (c:(Option Str)) (l:(List Stm)) (args:(List Int)) (cl:Int) (n:Nat) (hl:l.length≤1000000) (hx:∀x∈l,StOk x) (hsu:SuOk su) (IH:n≠0→zax w0 su n) (hn:n≤6) (hcl:cl=6 - (n:Int)) (hg:Gd (pt,mv,dn,c)) (k:Int) (hr:zB su (n+1) l args (pt,mv,dn,c)=.error k):RP w0 56 [.o (.c (pLs cSt l)),.o (.c (pLs cI args)),.o (.c (pI cl))] su (pt,mv,dn,c) k:=by
 refine tfn w0 56 ⟨[LF (.p 900 0),5,6,7],(rnA 0 1 2 3 4 0 0),[],0,0⟩ ⟨8,[sI cl,.ls 1 cI kIc args,.ls 4 cSt kSt l,sI dn,sI pt.2.2,sI pt.2.1,sI pt.1,.q (pSu su)],[pG cM mv],[oStr w0 c]⟩ zdJ (by kernel_rfl) ?_
 intro v1 e1
 by_cases c1:isOk (zB su (n+1) l args (pt,mv,dn,c))=true
 ·
  refine Or.inl ?_
  obtain ⟨pt2,dn2,mv2,c2,hO_caA⟩:∃(pt2:Vec) (dn2:Int) (mv2:(List Mov)) (c2:(Option Str)),zB su (n+1) l args (pt,mv,dn,c)=.ok (pt2,mv2,dn2,c2):=(by cases h:zB su (n+1) l args (pt,mv,dn,c) with | ok r=>exact ⟨r.1,r.2.2.1,r.2.1,r.2.2.2,rfl⟩ | error e=>rw [h] at c1;cases c1)
  refine rx [sI pt2.1,sI pt2.2.1,sI pt2.2.2,sI dn2] [pG cM mv2] [oStr w0 c2] (zoU su pt mv dn c l args cl n v1  pt2 dn2 mv2 c2  e1 hl hx hsu IH hn hcl hg hO_caA) ?_
  exfalso
  (rw [hO_caA] at hr;cases hr)
 ·
  refine Or.inr ?_
  obtain ⟨er,hO_caB⟩:∃(er:Int),zB su (n+1) l args (pt,mv,dn,c)=.error er:=(by cases h:zB su (n+1) l args (pt,mv,dn,c) with | ok r=>rw [h] at c1;exact absurd rfl c1 | error e=>exact ⟨e,rfl⟩)
  refine rx [.v (.iface 37 (.int .i64 er))] [] [] (zoV su pt mv dn c l args cl n v1  er  e1 hl hx hsu IH hn hcl hg hO_caB) ?_
  intro hc
  have hq:k=er:=by
   (rw [hO_caB] at hr;injection hr with hr;exact hr.symm)
  rw [hq]
  exact rp_of (su:=su) (s:=(pt,mv,dn,c)) (hc) ⟨rfl,rfl,rfl,rfl,rfl,rfl,rfl⟩ rfl rfl rfl
theorem zdQ {w0:World} {su:List (List UInt8×Sb)} (hsu:SuOk su) (n:Nat) (IH:n≠0→zax w0 su n):zax w0 su (n+1):=fun l args i s hn hi hl hx hg=>by
 obtain ⟨pt,mv,dn,c⟩:=s
 have hcl:i=6 - (n:Int):=by omega
 exact ⟨fun s' h=>zhO su pt mv dn c l args i n hl hx hsu IH (by omega) hcl hg s' h,fun k h=>zgi su pt mv dn c l args i n hl hx hsu IH (by omega) hcl hg k h⟩
theorem zqV {w0:World} {su:List (List UInt8×Sb)} (hsu:SuOk su) (n:Nat):zax w0 su (n+1):=by
 induction n with
 | zero=>exact zdQ hsu 0 fun h=>absurd rfl h
 | succ n ih=>exact zdQ hsu (n+1) fun _=>ih
end Go.Proofs.YteimplkdcjapdaaGreatDoor
namespace Go.Proofs.YteimplkdcjapdaaGreatDoor
open Go.RowKit Go.Shelf
theorem zgJ (p:Addr) (w:World) :
  CallsD Tryz.prog 54 #[.pointer (some p)] .returning w fun e u' w'=>e=.returned (.tuple #[])∧u'=.returning∧w'=w:=by
 refine callsD_of_wpS Tryz.func54 rfl fun c₀ cs hu=>?_
 apply wpS_seq
 apply wpS_region
 simp [wpOpsS,go_sem,recoverD,hu,Tryz.ntmps54,Exit.thenS]
 refine wpS_of_wp ?_
 simp only [Array.replicate_succ,Array.replicate_zero,List.push_toArray,List.append_toArray,List.nil_append,List.cons_append,List.setIfInBounds_toArray,List.set_cons_succ,List.set_cons_zero]
 go_wp2
 cases c₀
 simp_all [bodyPostS,results,Tryz.results54]
theorem zjz (p:Nat) (k:Int) (older:List PanicEntry) (w:World) (hc:w.heap[p]?=some (.cells #[.int .i64 0] 37 (0,0))) :
  CallsD Tryz.prog 54 #[.pointer (some ⟨p,0,none⟩)] (.panicking ({ v:=.iface 37 (.int .i64 k),recovered:=false }::older)) w fun e u' w'=>e=.returned (.tuple #[])∧u'=.panicking ({ v:=.iface 37 (.int .i64 k),recovered:=true }::older)∧w'=w.setCell ⟨p,0,none⟩ (.int .i64 k):=by
 have hcell:w.cell? ⟨p,0,none⟩=some (.int .i64 0):=by rw [zq hc];rfl
 have hfr:w.frozen? ⟨p,0,none⟩=false:=by unfold World.frozen?;rw [hc];simp
 have hta:∀w:World,(Instr.typeAssert (.iface 37 (.int .i64 k)) 20 37 true).run Tryz.prog w=.ok (.tuple #[.int .i64 k,.bool true]) w:=fun w=>by kernel_rfl
 refine callsD_of_wpS Tryz.func54 rfl fun c₀ cs hu=>?_
 apply wpS_seq
 apply wpS_region
 simp [wpOpsS,go_sem,recoverD,hu,Tryz.ntmps54,Exit.thenS]
 refine wpS_of_wp ?_
 simp only [Array.replicate_succ,Array.replicate_zero,List.push_toArray,List.append_toArray,List.nil_append,List.cons_append,List.setIfInBounds_toArray,List.set_cons_succ,List.set_cons_zero]
 go_wp2
 cases c₀
 simp_all [bodyPostS,results,Tryz.results54]
def cL:Code→Code
 | .seq a _=>a
 | c=>c
def cR:Code→Code
 | .seq _ b=>b
 | c=>c
theorem zoL {P:Program} {id:Nat} {o:Oper} {Q:Exit→Act→World→Prop} {a:Act} {W:World} {d:Deferred} (hg:o.guard=none) (hd:o.dst=none) (h:(execOp a.eval o).run P W=.ok (.defer d) W) (hq:Q .normal { a with defers:=d::a.defers } W):(Code.region id #[o] false).wp P Q a W:=by
 refine wp_region ?_
 show (if Region.wanted o (yielded #[o] a.tmps) then o.wp P a W (wpOps P #[o] Q []) Q∨(o.asks P a W∧LetsOut Q) else wpOps P #[o] Q [] (a.put o.dst undef) W)
 rw [if_pos (by unfold Region.wanted;rw [hg])]
 refine .inl ?_
 unfold Oper.wp
 rw [h,Oper.upon_defer,hd]
 exact hq
section
variable {w0:World} {F:Fact}
theorem za2 {K:Kit} {b id n i:Nat} {U:TypeId} {ls:List Lf} {v:Value} (hi:ls[i]?=some (.k v)) (hn:F.c n=pV v):Gh.sound K F ⟨id,[.bx b U ls],[.bx b U (ls.set i (.h n))],[]⟩:=by
 intro β st W hg hA
 obtain ⟨q,us,h1,h2,h3,h4,h5⟩:=hA _ (List.mem_cons_self ..)
 refine ⟨β,hg,fun _ _=>Loc.same.rfl,fun _ h=>h,fun _ h=>.inl h,fun c hc=>(by cases hc),fun A hAm=>?_⟩
 obtain rfl:=List.mem_singleton.1 hAm
 obtain ⟨u,hu,hv⟩:=zap h3 hi
 refine ⟨q,us,h1,h2,zaq h3 fun x hx=>?_,h4,h5⟩
 show F.c n x W β.D
 rw [hn]
 rw [hu] at hx;injection hx with hx
 rw [← hx];exact hv
theorem qP {b r id n k i:Nat} {U:TypeId} {l:List (List UInt8×Sb)} {ls:List Lf} (hF:Fine (KN w0) F) (hi:ls[i]?=some (.mp b)) (hbg:r≠b) (hlf:lfs b (ls.set i (.h k))=false) (hn:F.o n=oMap pSbV l) (hk:F.c k=pSu l):Gh.sound (KN w0) F ⟨id,[.hp [b] [] n,.bx r U ls],[.bx r U (ls.set i (.h k))],[b]⟩:=by
 intro β a W hg hA
 have hp:HP (KN w0) F β [b] [] n W:=hA _ (List.mem_cons_self ..)
 obtain ⟨q,us,hq,hh,ho,hr⟩:=hA (.bx r U ls) (List.mem_cons_of_mem _ (List.mem_cons_self ..))
 have hp1:F.o n [gv β b] [] W β.D:=hp.1
 rw [hn] at hp1
 obtain ⟨v,m,es,c,h1,h2,h3,h4⟩:=hp1
 obtain rfl:gv β b=v:=by simpa using h1
 rw [zad] at h2
 let β':Loc:=⟨fun x=>if x=b then none else β x,β.len,fun q=>β.D q∨β b=some q⟩
 have hb:β' b=none:=if_pos rfl
 have hne:∀x,x≠b→β' x=β x:=fun x hx=>if_neg hx
 have hsub:∀x q,β' x=some q→x≠b∧β x=some q:=fun x q hq=>by
  by_cases hx:x=b
  ·subst hx;rw [hb] at hq;cases hq
  ·exact ⟨hx,by rw [← hne x hx];exact hq⟩
 refine ⟨β',⟨fun x q hq=>hg.lt x q (hsub x q hq).2,fun x y q hx hy=>hg.inj x y q (hsub x q hx).2 (hsub y q hy).2,hg.bel,fun x q hq hD=>?_,fun q hq=>?_,fun q hq=>.inl (hg.low q hq)⟩,fun x hx=>⟨hne x (by simpa using hx),rfl⟩,fun q hq=>.inl hq,fun q hq=>hq.imp (fun h=>h) fun h=>⟨b,by simp,h⟩,fun x hx q hq=>?_,fun A hAm=>?_⟩
 ·obtain ⟨h5,h6⟩:=hsub x q hq
  rcases hD with hD | hD
  ·exact hg.dis x q h6 hD
  ·exact h5 (hg.inj x b q h6 hD)
 ·rcases hq with hq | hq
  ·exact hg.dlt q hq
  ·exact hg.lt b q hq
 ·rw [List.mem_singleton] at hx
  subst hx
  rw [hb] at hq;cases hq
 ·obtain rfl:=List.mem_singleton.1 hAm
  refine ⟨q,us,(hne r hbg).trans hq,hh,?_,hr⟩
  obtain ⟨u,hu,hv⟩:=zap ho hi
  obtain ⟨m',hm',rfl⟩:∃q,β b=some q∧u=.map (some q):=hv
  rw [h2] at hm'
  obtain rfl:=Option.some.inj hm'
  have h5:oks F β (ls.set i (.k (.map (some m)))) us.toList W:=zaq ho fun v hv2=>by rw [hu] at hv2;injection hv2 with e;exact e.symm
  have h6:oks F β' (ls.set i (.k (.map (some m)))) us.toList W:=zbe (K:=KN w0) (β:=β) (β':=β') (S:=fun _=>False) hF (fun _ h=>h.elim) (Oth.refl _ W) (fun q hq=>.inl hq) (fun x hx=>⟨hne x (fun e=>by subst e;rw [zg7 (x:=.k (.map (some m))) (y:=.h k) rfl,hlf] at hx;cases hx),rfl⟩) h5
  have h7:=zaq (i:=i) (y:=.h k) h6 fun v hv2=>by
   have e:v=.map (some m):=by rw [hu] at hv2;injection hv2 with e;exact e.symm
   show F.c k v W β'.D
   rw [hk,e]
   exact ⟨m,es,c,rfl,.inr h2,h3,zcZ (K:=KN w0) qp (S:=fun _=>False) (fun _ h=>h.elim) (Oth.refl _ W) (fun q hq=>.inl hq) h4⟩
  rw [List.set_set] at h7
  exact h7
theorem zqG {a:Sb} {x y z:Nat} (hx:F.c x=pS a.1) (hy:F.c y=pI a.2.1) (hz:F.c z=pLs cSt a.2.2):∀(β:Loc) v W,(Sh.o (.g [.h x,.h y,.h z])).ok F β v W→pSbV a v W β.D:=fun β v W ⟨us,e,h⟩=>by
 match hu:us.toList,h with
 | [u1,u2,u3],⟨h1,h2,h3,_⟩ =>
  have h1:F.c x u1 W β.D:=h1
  have h2:F.c y u2 W β.D:=h2
  have h3:F.c z u3 W β.D:=h3
  rw [hx] at h1;rw [hy] at h2;rw [hz] at h3
  obtain rfl:u1=_:=h1
  obtain rfl:u2=_:=h2
  refine ⟨u3,?_,h3⟩
  rw [e,show us=#[_,_,u3] from Array.ext' hu]
 | [],h=>exact h.elim
 | [_],h=>exact h.2.elim
 | [_,_],h=>exact h.2.2.elim
 | _::_::_::_::_,h=>exact h.2.2.2.elim
def opX:Code→Option Oper
 | .region _ ops _=>ops[0]?
 | _=>none
def isDf (o:Oper):Bool:=o.guard.isNone && o.dst.isNone && (match o.op with
 | .defer c=>(match c.callee with
  | .value (.func g)=>g == 54
  | _=>false) && (match c.args.toList with
  | [.tmp t]=>t == 7
  | _=>false)
 | _=>false)
def oneOp:Code→List Oper
 | .region _ ops false=>ops.toList
 | _=>[]
theorem zrH {o:Oper} {a:Act} {W:World} {p:Addr} (h:isDf o=true) (h7:a.tmps.getD 7 undef=.pointer (some p)):o.guard=none∧o.dst=none∧(execOp a.eval o).run Tryz.prog W=.ok (.defer { target:=.fn (.func 54) #[],args:=#[.pointer (some p)] }) W:=by
 unfold isDf at h
 simp only [Bool.and_eq_true,Option.isNone_iff_eq_none] at h
 obtain ⟨⟨h1,h2⟩,h3⟩:=h
 refine ⟨h1,h2,?_⟩
 split at h3
 case h_2=>cases h3
 rename_i c hc
 rw [Bool.and_eq_true] at h3
 obtain ⟨h4,h5⟩:=h3
 split at h4
 case h_2=>cases h4
 rename_i g hg
 rw [beq_iff_eq] at h4
 subst h4
 split at h5
 case h_2=>cases h5
 rename_i t ht
 rw [beq_iff_eq] at h5
 subst h5
 have ha:c.args=#[.tmp 7]:=Array.ext' ht
 have he:a.eval (.tmp 7)=.pointer (some p):=h7
 simp only [execOp,hc,resolve,hg,ha,List.map_toArray,List.map_cons,List.map_nil,he]
 rfl
theorem wp_df {c:Code} {o:Oper} {Q:Exit→Act→World→Prop} {a:Act} {W:World} {p:Addr} (hc:oneOp c=[o]) (ho:isDf o=true) (h7:a.tmps.getD 7 undef=.pointer (some p)) (hq:Q .normal { a with defers:={ target:=.fn (.func 54) #[],args:=#[.pointer (some p)] }::a.defers } W):c.wp Tryz.prog Q a W:=by
 cases c with
 | region id ops d =>
  cases d with
  | true=>cases hc
  | false =>
   have e:ops=#[o]:=Array.ext' hc
   subst e
   obtain ⟨g1,g2,g3⟩:=zrH (W:=W) ho h7
   exact zoL g1 g2 g3 hq
 | _=>cases hc
def gnLow (pn:List Nat):Atom→Bool
 | .gn b=>!pn.contains b
 | A=>A.low pn
theorem zb2 {az0:List Sh} {az:List PSh} {vir:List Nat} {st1 st2:List Atom} {x:Ex} {r:List Mov} {k:Int} {m e b:Nat} (pn:List Nat)
  (hF:Fine (KN w0) F) (hz:az0.map (Sh.pr F)=az) (hlow:az0.all (Sh.low [])=true) (hlen:Nat.ble az0.length (ntOf Tryz.prog 16)=true)
  (h0:∀R:Frm,R.pm=⟨ntOf Tryz.prog 16,[],[]⟩→Goes (KN w0) Tryz.prog R (cL (z7 Tryz.prog 16)) F (zai 0 az0++vir.map Atom.gn) .n F st1)
  (h7:Atom.sl 7 (.o (.c (.p b 0)))∈st1) (hb:b∈pn) (hl1:st1.all (gnLow pn)=true)
  (h2:∀R:Frm,R.pm=⟨ntOf Tryz.prog 16,pn,[]⟩→Goes (KN w0) Tryz.prog R (cR (cR (z7 Tryz.prog 16))) F st1 x F st2)
  (hx:(x=.r∧resSh Tryz.prog st2 [.tmp 6,.cell 7 37]=some (.t [.c (.h m),.c (.k (.int .i64 0))])∧F.c m=pLs cM r∧k=0) ∨
   (x=.p (.o (.c (.h e)))∧F.c e=pV (.iface 37 (.int .i64 k))∧Atom.sl 6 (.o (.c (.k (.slice none 0 0))))∈st2∧Atom.sl 7 (.o (.c (.p b 0)))∈st2∧Atom.bx b 37 [.k (.int .i64 0)]∈st2∧r=[])) :
  Fun (KN w0) Tryz.prog 16 az (.t [.c (pLs cM r),.c (pI k)]):=by
 subst hz
 intro W D vs hvs hfit
 obtain ⟨o,ho,hdf⟩:∃o,oneOp (cL (cR (z7 Tryz.prog 16)))=[o]∧isDf o=true:=⟨(oneOp (cL (cR (z7 Tryz.prog 16)))).head (by decide +kernel),by kernel_rfl,by kernel_rfl⟩
 have hnt:ntOf Tryz.prog 16=57:=by kernel_rfl
 rw [hnt] at hlen h0 h2
 rw [Nat.ble_eq] at hlen
 let β0:Loc:=⟨fun _=>none,fun _=>(0,0),D⟩
 let R:Frm:={ w0:=W,β0:=β0,pm:=⟨57,[],[]⟩ }
 have hshs:shs F β0 az0 vs W:=(zbv (β:=β0) hlow).2 hvs
 have hsz:=zcv hshs
 have hI:Inv (KN w0) F R (zai 0 az0++vir.map Atom.gn) { tmps:=vs.toArray++Array.replicate (57 - vs.toArray.size) undef,defers:=[] } W:=by
  refine ⟨by simp [R];omega,rfl,β0,⟨⟨fun b q hq=>(by cases hq),fun b c q hq=>(by cases hq),hfit.bel,fun b q hq=>(by cases hq),hfit.dlt,hfit.low⟩,Oth.refl _ W,fun b hb q hq=>(by cases hq),fun b hb=>(by cases hb),fun b hb=>(by cases hb),fun _ h=>h,fun _ h=>.inl h⟩,fun A hA=>?_⟩
  rcases List.mem_append.1 hA with hA | hA
  ·refine zbm hshs (fun j v hv=>?_) hA
   have hj:j<vs.length:=(List.getElem?_eq_some_iff.1 hv).1
   rw [Nat.zero_add,Array.getD_eq_getD_getElem?,Array.getElem?_append_left (by simpa using hj)]
   simp [hv]
  ·rw [List.mem_map] at hA
   obtain ⟨b,_,rfl⟩:=hA
   rfl
 obtain ⟨fn,hfn,hbody,hrs,hntm⟩:∃fn,Tryz.prog.funcs[16]?=some fn∧fn.body=some (.seq (cL (z7 Tryz.prog 16)) (.seq (cL (cR (z7 Tryz.prog 16))) (cR (cR (z7 Tryz.prog 16)))))∧fn.results=#[.tmp 6,.cell 7 37]∧fn.ntmps=57:=⟨_,Tryz.func16,by kernel_rfl,by kernel_rfl,by kernel_rfl⟩
 refine calls_of_wp_defers hfn hbody ?_
 rw [hntm]
 refine wp_seq (h0 R rfl _ _ _ hI fun a1 W1 hI1=>wp_seq ?_)
 obtain ⟨hn1,hd1,β1,hE1,hA1⟩:=hI1
 have hd1:a1.defers=[]:=hd1
 obtain ⟨q,hbq,hv7⟩:∃q,β1 b=some q∧a1.tmps.getD 7 undef=.pointer (some ⟨q,0,none⟩):=hA1 _ h7
 refine wp_df ho hdf hv7 ?_
 rw [hd1]
 let β2:Loc:=⟨fun c=>if c∈pn then β1 c else none,β1.len,β1.D⟩
 have hsame:∀c∈pn,β1.same β2 c:=fun c hc=>⟨if_pos hc,rfl⟩
 have hsub:∀c p,β2 c=some p→c∈pn∧β1 c=some p:=fun c p hp=>by
  by_cases hc:c∈pn
  ·exact ⟨hc,by rw [← (hsame c hc).1];exact hp⟩
  ·have:β2 c=none:=if_neg hc
   rw [this] at hp;cases hp
 let d:Deferred:={ target:=.fn (.func 54) #[],args:=#[.pointer (some ⟨q,0,none⟩)] }
 let R2:Frm:={ w0:=W1,β0:=β2,pm:=⟨57,pn,[]⟩,dfs:=[d] }
 have hO1:Oth (fun _=>False) W1 W1:=Oth.refl _ W1
 have hI2:Inv (KN w0) F R2 st1 { a1 with defers:=[d] } W1:=by
  refine ⟨hn1,rfl,β2,⟨⟨fun c p hp=>hE1.geo.lt c p (hsub c p hp).2,fun c c' p h h'=>hE1.geo.inj c c' p (hsub c p h).2 (hsub c' p h').2,hE1.geo.bel,fun c p hp=>hE1.geo.dis c p (hsub c p hp).2,hE1.geo.dlt,hE1.geo.low⟩,Oth.refl _ W1,fun c hc p hp=>absurd (hsub c p hp).1 hc,fun c _ _=>Loc.same.rfl,fun c _ p hp=>.inl hp,fun _ h=>h,fun _ h=>.inl h⟩,fun A hA=>?_⟩
  have hl:=List.all_eq_true.1 hl1 A hA
  have hm:A.low pn=true→A.ok (KN w0) F β2 { a1 with defers:=[d] } W1:=fun hl=>Atom.mv (K:=KN w0) (β:=β1) (β':=β2) hF (fun _ h=>h.elim) hO1 (fun _ h=>h) (fun _ _ _=>rfl) (fun c hc=>hsame c (Atom.low_has hl hc)) (hA1 A hA) (fun _ _ _ _ _ h=>h.elim)
  cases A with
  | gn c =>
   show β2 c=none
   exact if_neg (by simpa [gnLow] using hl)
  | sl s x=>exact hm hl
  | bx c T ls=>exact hm hl
  | gl c T z n=>exact hm hl
  | hp l rs n=>exact hm hl
 have hkept:∀(W2 W3:World) (β3:Loc),Env (KN w0) R2 β3 W2→Oth (fun p=>p=q) W2 W3→Kept W D W3 β3.D:=fun W2 W3 β3 hE2 hO=>by
  have hqW:W.heap.size≤q:=hE1.own b (by simp [R]) q hbq
  have o1:Oth (fun p=>W.heap.size≤p) W W1:=hE1.oth.mono fun p ⟨c,hc,_⟩=>by cases hc
  have o2:Oth (fun p=>W.heap.size≤p) W1 W2:=hE2.oth.mono fun p ⟨c,hc,hp⟩=>hE1.own c (by simp [R]) p (hsub c p hp).2
  have o3:Oth (fun p=>W.heap.size≤p) W2 W3:=hO.mono fun p hp=>hp ▸ hqW
  have o4:=(o1.trans o2 fun p hp _=>hp).trans o3 fun p hp _=>hp
  refine ⟨o4.below fun p hp=>hp,fun p hp=>hE2.dm p (hE1.dm p hp),fun p hp=>?_,fun p hp=>Nat.lt_of_lt_of_le (hE2.geo.dlt p hp) hO.size⟩
  rcases hE2.dn p hp with h | h | ⟨c,hc,_⟩
  ·rcases hE1.dn p h with h | h | ⟨c,hc,_⟩
   ·exact .inl h
   ·exact .inr h
   ·cases hc
  ·exact .inr (Nat.le_trans hE1.oth.size h)
  ·cases hc
 refine h2 R2 rfl _ _ _ hI2 ?_
 rcases hx with ⟨rfl,hres,hm,rfl⟩ | ⟨rfl,he,h6,h7',hbox,rfl⟩
 ·intro a3 W3 hI3
  obtain ⟨_,hd3,β3,hE3,hA3⟩:=hI3
  have hd3:a3.defers=[d]:=hd3
  show Leaves _ _ _ _ a3.defers .returning W3
  rw [hd3]
  refine leaves_cons (f:=54) (args:=#[.pointer (some ⟨q,0,none⟩)]) (by simp) (by simp [go_sem]) ?_
  refine (zgJ ⟨q,0,none⟩ _).mono ?_
  rintro e u' w'' ⟨rfl,rfl,rfl⟩
  obtain ⟨v,hv,hok⟩:=zf1 (fn:=fn) hA3 (by rw [hrs];exact hres)
  have e:Sh.pr F (.t [.c (.h m),.c (.k (.int .i64 0))])=.t [.c (pLs cM r),.c (pI 0)]:=by
   show PSh.t [.c (F.c m),.c _]=_
   rw [hm];rfl
  exact ⟨v,hv,v,β3.D,rfl,e ▸ (Sh.pr_iff (β:=β3) (by rfl)).1 hok,hkept _ _ _ hE3 (Oth.refl _ _)⟩
 ·intro v a3 W3 hI3
  obtain ⟨_,hd3,β3,hE3,hve,hA3⟩:=hI3
  have hd3:a3.defers=[d]:=hd3
  have hve:F.c e v W3 β3.D:=hve
  rw [he] at hve
  obtain rfl:v=_:=hve
  show Leaves _ _ _ _ a3.defers (.panicking _) W3
  rw [hd3]
  have hq3:β3 b=some q:=(hE3.same b hb (by simp [R2])).1.trans ((hsame b hb).1.trans hbq)
  obtain ⟨q',us,e1,e2,e3,_⟩:Box (KN w0) F β3 b 37 [.k (.int .i64 0)] W3:=hA3 _ hbox
  rw [hq3] at e1
  obtain rfl:=Option.some.inj e1
  have hE:W3.heap[q]?=some (.cells #[.int .i64 0] 37 (0,0)):=by
   rw [e2]
   match hu:us.toList,e3 with
   | [u],⟨h,_⟩ =>
    obtain rfl:u=.int .i64 0:=h
    rw [show us=#[.int .i64 0] from Array.ext' hu]
   | [],h=>exact h.elim
   | _::_::_,h=>exact h.2.elim
  have hs6:a3.tmps.getD 6 undef=.slice none 0 0:=hA3 _ h6
  obtain ⟨q7,e7,hs7⟩:∃p,β3 b=some p∧a3.tmps.getD 7 undef=.pointer (some ⟨p,0,none⟩):=hA3 _ h7'
  rw [hq3] at e7
  obtain rfl:=Option.some.inj e7
  refine leaves_cons (f:=54) (args:=#[.pointer (some ⟨q,0,none⟩)]) (by simp) (by simp [go_sem]) ?_
  refine (zjz q k _ _ hE).mono ?_
  rintro e u' w'' ⟨rfl,rfl,rfl⟩
  have hE3':=Lib.heap_setCell_same (i:=0) hE (.int .i64 k)
  have hc3:(W3.setCell ⟨q,0,none⟩ (.int .i64 k)).cell? ⟨q,0,none⟩=some (.int .i64 k):=by rw [zq hE3'];rfl
  have hO3:Oth (fun p=>p=q) W3 (W3.setCell ⟨q,0,none⟩ (.int .i64 k)):=⟨rfl,rfl,rfl,by simp [World.setCell],fun p hp hne=>heap_setCell_other _ _ _ _ hne⟩
  have hk:=hkept _ _ _ hE3 hO3
  rw [Array.getD_eq_getD_getElem?] at hs6 hs7
  simp [Leaves,settle,results,hrs,go_sem,hs6,hs7,hc3]
  refine ⟨β3.D,⟨#[_,_],rfl,?_⟩,hk⟩
  exact ⟨.inl ⟨⟨_,_,rfl⟩,rfl,rfl⟩,rfl,trivial⟩
end
end Go.Proofs.YteimplkdcjapdaaGreatDoor
namespace Go.Proofs.YteimplkdcjapdaaGreatDoor
open Go.RowKit
def runP (l:List Sb) (args:List Int) (start:Vec):List Mov×Int:=match runS l args start with
 | .ok r=>(r,0)
 | .error k=>([],k)
def suOf (l:List Sb):List (List UInt8×Sb):=l.map fun s=>(s.1,s)
theorem zqC {l:List Sb} {args:List Int} {start:Vec} (h:zD l=0) (hs:inV start=false):runP l args start=([],3):=by
 unfold runP runS;rw [if_neg (by omega),hs];rfl
theorem zdt {l:List Sb} {args:List Int} {start:Vec} {x:Sb} (h:zD l=0) (hs:inV start=true) (hx:l[0]?=some x):runS l args start=if x.2.1≠args.length then .error 18 else match zB (suOf l) 7 x.2.2 args (start,[],0,none) with
  | .error e=>.error e
  | .ok s=>match offS s with
   | .error e=>.error e
   | .ok t=>.ok t.2.1:=by
 unfold runS
 rw [if_neg (by omega),hs]
 cases l with
 | nil=>cases hx
 | cons m r =>
  obtain rfl:m=x:=by simpa using hx
  rfl
theorem ziG {l:List Sb} (h:zD l=0):∃(n:Nat) (x:Sb),(0:Int)=(n:Int)∧l[n]?=some x:=by
 have hc:=qX h
 cases l with
 | nil=>exact absurd rfl hc.1
 | cons x r=>exact ⟨0,x,rfl,rfl⟩
theorem zjn:∀{l:List Sb} {kn:List (List UInt8)},subsE kn l=0→∀s∈l,stmsE s.2.1 s.2.2=0
 | [],_,_,s,hs=>by cases hs
 | x::r,kn,h,s,hs=>by
  have q:=zaa (l:=x::r) (k:=0) (x:=x) rfl h
  rcases List.mem_cons.1 hs with rfl | hs
  ·exact q.2.2.2.2.1
  ·exact zjn (l:=r) q.2.2.2.2.2 s hs
theorem sb_ok {l:List Sb} (h:zD l=0) (hw:SbW l):∀s∈l,s.2.2.length≤1000000∧∀x∈s.2.2,StOk x:=fun s hs =>
 ⟨(hw.2 s hs).1,fun x hx=>⟨zmf (zhK (zjn (qX h).2.2 s hs) x hx),((hw.2 s hs).2 x hx).1,((hw.2 s hs).2 x hx).2⟩⟩
theorem su_ok {l:List Sb} (h:zD l=0) (hw:SbW l):SuOk (suOf l):=fun y hy=>by
 obtain ⟨s,hs,rfl⟩:=List.mem_map.1 hy
 exact sb_ok h hw s hs
theorem zkY {s:List UInt8}:∀{kn:List (List UInt8×Sb)},(kn.map (·.1)).contains s=false→kn.find? (fun x=>x.1 == s)=none
 | [],_=>rfl
 | x::r,h=>by
  rw [List.map_cons,List.contains_cons,Bool.or_eq_false_iff] at h
  have e:(x.1 == s)=false:=by rw [← h.1,Bool.eq_iff_iff,beq_iff_eq,beq_iff_eq];exact eq_comm
  rw [List.find?_cons,e]
  exact zkY h.2
theorem gd0 {p:Vec}:Gd (p,[],0,none):=⟨by simp,Int.le_refl _,by show (0:Int)≤1000;omega,fun d hd=>by cases hd⟩
theorem zrL {s:Rn} (hg:Gd s):∀d,s.2.2.2=some d→d.2.2.1.length≤1000∧d.2.2.2.length=d.2.2.1.length:=fun d hd=>by
 have h1:=hg.c d hd
 have h2:=hg.dm
 exact ⟨by omega,h1.1⟩
structure ruA_T where
 i:Int
 kn:(List (List UInt8×Sb))
def zhA:List Atom:=(.sl 0 (yh 0)::.sl 1 (yh 1)::.sl 2 (.o (.g [.h 2,.h 3,.h 4]))::.sl 5 (.o (.c (.p 0 0)))::.sl 6 (.o (.c (.k (.slice none 0 0))))::.sl 7 (.o (.c (.p 2 0)))::.sl 8 (.o (.c (.p 900 0)))::.sl 11 (yh 0)::.sl 12 (yh 5)::.sl 14 (.o (.g [.h 2,.h 3,.h 4]))::.sl 15 (yh 6)::.sl 16 (yh 7)::.sl 18 (yh 0)::.sl 19 (yh 8)::.sl 20 (yh 9)::.sl 21 (yh 10)::.sl 22 (yh 1)::.sl 23 (yh 11)::.sl 24 (yh 12)::.sl 26 (.o (.c (.mp 19)))::.sl 27 (.o (.g [.h 2,.h 3,.h 4]))::.sl 28 (.o (.g [.mp 19,.h 2,.h 3,.h 4,.k (.slice none 0 0),.k (.int .i64 0),.k (.pointer none)]))::.sl 29 (.o (.c (.p 900 0)))::.sl 30 (yh 0)::.sl 31 (yh 14)::.sl 32 (yh 15)::.bx 0 26 [.h 2,.h 3,.h 4]::.bx 2 37 [.k (.int .i64 0)]::.bx 900 108 [.mp 19,.h 2,.h 3,.h 4,.gr 901,.h 13,.po 902]::.gl 901 45 11 0::.hp [19] [] 2::.hp [902,903,904] [] 1::[]:List Atom)
def ruA_S:LoopS:=⟨7,(.sl 0 (yh 0)::.sl 1 (yh 1)::.sl 2 (.o (.g [.h 2,.h 3,.h 4]))::.sl 5 (.o (.c (.p 0 0)))::.sl 6 (.o (.c (.k (.slice none 0 0))))::.sl 7 (.o (.c (.p 2 0)))::.sl 8 (.o (.c (.p 900 0)))::.sl 11 (yh 0)::.sl 12 (yh 5)::.sl 14 (.o (.g [.h 2,.h 3,.h 4]))::.sl 15 (yh 6)::.sl 16 (yh 7)::.sl 18 (yh 0)::.sl 19 (yh 8)::.sl 20 (yh 9)::.sl 21 (yh 10)::.sl 22 (yh 1)::.sl 23 (yh 11)::.sl 24 (yh 12)::.sl 26 (.o (.c (.mp 19)))::.sl 27 (.o (.g [.h 2,.h 3,.h 4]))::.sl 28 (.o (.g [.mp 19,.h 2,.h 3,.h 4,.k (.slice none 0 0),.k (.int .i64 0),.k (.pointer none)]))::.sl 29 (.o (.c (.p 900 0)))::.sl 30 (yh 0)::.sl 31 (yh 14)::.sl 32 (.o (.c (.k (.int .i64 0))))::.bx 0 26 [.h 2,.h 3,.h 4]::.bx 2 37 [.k (.int .i64 0)]::.bx 900 108 [.mp 19,.h 2,.h 3,.h 4,.gr 901,.h 13,.po 902]::.gl 901 45 11 0::.hp [19] [] 0::.hp [902,903,904] [] 1::[]:List Atom),(.x 0),(.sl 0 (yh 0)::.sl 1 (yh 1)::.sl 2 (.o (.g [.h 2,.h 3,.h 4]))::.sl 5 (.o (.c (.p 0 0)))::.sl 6 (.o (.c (.k (.slice none 0 0))))::.sl 7 (.o (.c (.p 2 0)))::.sl 8 (.o (.c (.p 900 0)))::.sl 11 (yh 0)::.sl 12 (yh 5)::.sl 14 (.o (.g [.h 2,.h 3,.h 4]))::.sl 15 (yh 6)::.sl 16 (yh 7)::.sl 18 (yh 0)::.sl 19 (yh 8)::.sl 20 (yh 9)::.sl 21 (yh 10)::.sl 22 (yh 1)::.sl 23 (yh 11)::.sl 24 (yh 12)::.sl 26 (.o (.c (.mp 19)))::.sl 27 (.o (.g [.h 2,.h 3,.h 4]))::.sl 28 (.o (.g [.mp 19,.h 2,.h 3,.h 4,.k (.slice none 0 0),.k (.int .i64 0),.k (.pointer none)]))::.sl 29 (.o (.c (.p 900 0)))::.sl 30 (yh 0)::.sl 31 (yh 14)::.bx 0 26 [.h 2,.h 3,.h 4]::.bx 2 37 [.k (.int .i64 0)]::.bx 900 108 [.mp 19,.h 2,.h 3,.h 4,.gr 901,.h 13,.po 902]::.gl 901 45 11 0::.hp [19] [] 2::.hp [902,903,904] [] 1::[]:List Atom)⟩
abbrev zl1:List (Nat×Ent):=(10007,.fb 7 false)::(10012,.fb 12 false)::(1006000,.bin .lss 3 (yh 15) (yh 14) (yh 16))::[]
abbrev zpA:List (Nat×Ent):=(10016,.fb 16 true)::(1006001,.op (.ia 28) [yh 0,yh 15] [] (yh 17))::(1006002,.op (.ld 56) [yh 17] [] (.o (.g [.h 18,.h 19,.h 20])))::(1006012,.up 105 [19] (LF (.mp 19)) (yh 18) (.o (.g [.h 18,.h 19,.h 20])) [.hp [19] [] 2] [.hp [19] [] 3])::(1006013,.bin .add 3 (yh 15) (LF (.k (.int .i64 1))) (yh 21))::zl1
abbrev zpB:List (Nat×Ent):=(10016,.fb 16 false)::zl1
theorem zl2 {w0:World} (l:(List Sb)) (args:(List Int)) (start:Vec) (v1:Int) (v5:Bool) (v6:Bool) (n9:Nat) (x10:Sb) (v13:Int) (v14:Bool) (v17:Int) (h7:v6=false) (h15:v14=false) (su:(List (List UInt8×Sb))) {F:Fact} (u0:F.c 0=pLs cSb l) (u1:F.c 1=pLs cI args) (u2:F.c 2=pI start.1) (u3:F.c 3=pI start.2.1) (u4:F.c 4=pI start.2.2) (u5:F.c 5=pI v1) (u6:F.c 6=pB v5) (u7:F.c 7=pB v6) (u8:F.c 8=pP (cSb x10)) (u9:F.c 9=pP ((cSb x10).drop 1)) (u10:F.c 10=pI x10.2.1) (u11:F.c 11=pI v13) (u12:F.c 12=pB v14) (u13:F.c 13=pI (0:Int)) (u14:F.c 14=pI v17) (ug0:F.g 0=pG cM ([]:List Mov)) (uo0:F.o 0=oMap pSbV []) (uo1:F.o 1=oStr w0 none) (uo2:F.o 2=oMap pSbV su) (R:Frm) (hR:R.pm=⟨ntOf Tryz.prog 16,[0,2],[]⟩) (hv:(l.length:Int)=v17) (h:zD l=0) (hw:SbW l) (hO:suOf l=su):zU (KN w0) Tryz.prog F R ruA_S (lp Tryz.prog 16 0):=by
 refine zd3 (T:=ruA_T) (fun t=>FL [pLs cSb l,pLs cI args,pI start.1,pI start.2.1,pI start.2.2,pI v1,pB v5,pB v6,pP (cSb x10),pP ((cSb x10).drop 1),pI x10.2.1,pI v13,pB v14,pI (0:Int),pI v17,pI t.i] [pG cM ([]:List Mov)] [] [oMap pSbV [],oStr w0 none,oMap pSbV t.kn]) (fun ⟨i,kn⟩=>∃k:Nat,i=(k:Int)∧k≤l.length∧kn=suOf (l.take k)∧subsE (kn.map (·.1)) (l.drop k)=0) (fun ⟨i,kn⟩=>(v17 - i).toNat) { i:=(0:Int),kn:=[] } zhA ⟨0,rfl,Nat.zero_le _,rfl,(qX h).2.2⟩ (LZ ⟨z_c (LU u0),z_c (LU u1),z_g ⟨LU u2,LU u3,LU u4,trivial⟩,z_c yy,z_c yy,z_c yy,z_c yy,z_c (LU u0),z_c (LU u5),z_g ⟨LU u2,LU u3,LU u4,trivial⟩,z_c (LU u6),z_c (LU u7),z_c (LU u0),z_c (LU u8),z_c (LU u9),z_c (LU u10),z_c (LU u1),z_c (LU u11),z_c (LU u12),z_c yy,z_g ⟨LU u2,LU u3,LU u4,trivial⟩,z_g ⟨yy,LU u2,LU u3,LU u4,yy,yy,yy,trivial⟩,z_c yy,z_c (LU u0),z_c (LU u14),z_c yy,z_b ⟨LU u2,LU u3,LU u4,trivial⟩,z_b ⟨yy,trivial⟩,z_b ⟨yy,LU u2,LU u3,LU u4,yy,LU u13,yy,trivial⟩,z_gq ug0 rfl,z_hp uo0 rfl,z_hp uo1 rfl,trivial⟩) rfl fun t hJ=>?_
 obtain ⟨i,kn⟩:=t
 dsimp only at hJ
 obtain ⟨k,hi,hk,hkn,hs⟩:=hJ
 obtain ⟨v501,e501⟩:=LX (decide (i<v17))
 let A1:List Pred→List Pred:=fun t=>pLs cSb l::pLs cI args::pI start.1::pI start.2.1::pI start.2.2::pI v1::pB v5::pB v6::pP (cSb x10)::pP ((cSb x10).drop 1)::pI x10.2.1::pI v13::pB v14::pI (0:Int)::pI v17::pI i::pB v501::t
 have f1:LA (KN w0) A1:=fun t h=>⟨(zx qg),(zx zR),zb,zb,zb,zb,zb,zb,(zcC (qg _)),(zcC (zc3 (qg _) 1)),zb,zb,zb,zb,zb,zb,zb,h⟩
 let G1:List LPred→List LPred:=fun t=>pG cM ([]:List Mov)::t
 have g1:LG (KN w0) G1:=fun t h=>⟨(qc qK),h⟩
 let O1:List OPred→List OPred:=fun t=>oMap pSbV []::oStr w0 none::oMap pSbV kn::t
 have o1:∀t,zC (KN w0) t→zC (KN w0) (O1 t):=fun t h=>⟨(qR qp),zaJ,(qR qp),h⟩
 have T1:∀t u oo,Sound (KN w0) Tryz.prog (FL (A1 t) (G1 u) [] (O1 oo)) zl1:=fun t u oo=>⟨e_fbv h7,e_fbv h15,e_bin (za rfl) (za rfl) (za rfl) (r_cmp (LO e501)),trivial⟩
 cases h502:v501 with
 | true =>
  obtain ⟨n503,x504,s505,s506⟩:∃(n503:Nat) (x504:Sb),i=(n503:Int)∧l[n503]?=some x504:=by (have dh502:=LD e501 h502;have hlt:k<l.length:=(by omega);exact ⟨k,_,hi,List.getElem?_eq_getElem hlt⟩)
  obtain ⟨v507,e507⟩:=LX (kn++[(x504.1,x504)])
  have s508:kn.find? (fun x=>x.1 == x504.1)=none:=by (have dh502:=LD e501 h502;have q:n503=k:=(by omega);subst q;exact zkY (zaa s506 hs).2.1)
  obtain ⟨v509,e509⟩:=LX (IntKind.i64.wrap (i+(1:Int)))
  let A2:=fun t=>A1 (pP (cSb x504)::pS x504.1::pI x504.2.1::pLs cSt x504.2.2::pI v509::t)
  have f2:LA (KN w0) A2:=fun t h=>f1 _ ⟨(zcC (qg _)),zb,zb,(zx z8),zb,h⟩
  let O2:=fun t=>O1 (oMap pSbV v507::t)
  have o2:∀t,zC (KN w0) t→zC (KN w0) (O2 t):=fun t h=>o1 _ ⟨(qR qp),h⟩
  have T2:∀t u oo,Sound (KN w0) Tryz.prog (FL (A2 t) (G1 u) [] (O2 oo)) zpA:=fun t u oo=>⟨e_fbv h502,e_iaL (E:=56) (z:=3) (fun _=>rfl) (by kernel_rfl) (by kernel_rfl) (zm rfl) (za rfl) s505 s506 (zm rfl),e_ldG (by kernel_rfl) (by kernel_rfl) (zm rfl) rfl rfl rfl,e_upM qp (a:=x504) (Kt:=9) (E:=56) (by kernel_rfl) (by kernel_rfl) rfl rfl e507 (za rfl) (zqG rfl rfl rfl) s508,e_bin (za rfl) zf (za rfl) (r_ar (LO e509)),T1 _ _ _⟩
  refine .inr ⟨⟨v509,v507⟩,?_,?_,goes (x:=.n) (y:=.n) (Fb:=FL (A2 []) (G1 []) [] (O2 [])) (stb:=zhA) (tl:=(.sl 0 (yh 0)::.sl 1 (yh 1)::.sl 2 (.o (.g [.h 2,.h 3,.h 4]))::.sl 5 (.o (.c (.p 0 0)))::.sl 6 (.o (.c (.k (.slice none 0 0))))::.sl 7 (.o (.c (.p 2 0)))::.sl 8 (.o (.c (.p 900 0)))::.sl 11 (yh 0)::.sl 12 (yh 5)::.sl 14 (.o (.g [.h 2,.h 3,.h 4]))::.sl 15 (yh 6)::.sl 16 (yh 7)::.sl 18 (yh 0)::.sl 19 (yh 8)::.sl 20 (yh 9)::.sl 21 (yh 10)::.sl 22 (yh 1)::.sl 23 (yh 11)::.sl 24 (yh 12)::.sl 26 (.o (.c (.mp 19)))::.sl 27 (.o (.g [.h 2,.h 3,.h 4]))::.sl 28 (.o (.g [.mp 19,.h 2,.h 3,.h 4,.k (.slice none 0 0),.k (.int .i64 0),.k (.pointer none)]))::.sl 29 (.o (.c (.p 900 0)))::.sl 30 (yh 0)::.sl 31 (yh 14)::.sl 32 (yh 21)::.bx 0 26 [.h 2,.h 3,.h 4]::.bx 2 37 [.k (.int .i64 0)]::.bx 900 108 [.mp 19,.h 2,.h 3,.h 4,.gr 901,.h 13,.po 902]::.gl 901 45 11 0::.hp [19] [] 3::.hp [902,903,904] [] 1::[]:List Atom)) (C:=zpA) (H:=.no) 6000 (LZ ⟨z_c yy,z_c yy,z_g ⟨yy,yy,yy,trivial⟩,z_c yy,z_c yy,z_c yy,z_c yy,z_c yy,z_c yy,z_g ⟨yy,yy,yy,trivial⟩,z_c yy,z_c yy,z_c yy,z_c yy,z_c yy,z_c yy,z_c yy,z_c yy,z_c yy,z_c yy,z_g ⟨yy,yy,yy,trivial⟩,z_g ⟨yy,yy,yy,yy,yy,yy,yy,trivial⟩,z_c yy,z_c yy,z_c yy,z_c yy,z_b ⟨yy,yy,yy,trivial⟩,z_b ⟨yy,trivial⟩,z_b ⟨yy,yy,yy,yy,yy,yy,yy,trivial⟩,z_gl (fun _ _ _ h=>h),z_hp rfl rfl,z_hp rfl rfl,trivial⟩) (zw (f2 [] trivial) (g1 [] trivial) trivial (o2 [] trivial)) (T2 [] [] []) mixed hR trivial (fun _ _ _ hs=>by cases hs) (by kernel_rfl) rfl (LZ ⟨z_c yy,z_c yy,z_g ⟨yy,yy,yy,trivial⟩,z_c yy,z_c yy,z_c yy,z_c yy,z_c yy,z_c yy,z_g ⟨yy,yy,yy,trivial⟩,z_c yy,z_c yy,z_c yy,z_c yy,z_c yy,z_c yy,z_c yy,z_c yy,z_c yy,z_c yy,z_g ⟨yy,yy,yy,trivial⟩,z_g ⟨yy,yy,yy,yy,yy,yy,yy,trivial⟩,z_c yy,z_c yy,z_c yy,z_c (fun β v W h=>(zm rfl β v W).2 h),z_b ⟨yy,yy,yy,trivial⟩,z_b ⟨yy,trivial⟩,z_b ⟨yy,yy,yy,yy,yy,yy,yy,trivial⟩,z_gl (fun _ _ _ h=>h),z_hp rfl rfl,z_hp rfl rfl,trivial⟩)⟩
  all_goals (have dh502:=LD e501 h502;have q:n503=k:=(by omega);subst q;have hlt:=(List.getElem?_eq_some_iff.1 s506).1;have hl6:=hw.1;have x3:v509=((n503+1:Nat):Int):=(by rw [← e509,hi,wri (by omega)];omega))
  ·show (v17 - v509).toNat<(v17 - i).toNat
   omega
  ·refine ⟨n503+1,x3,by omega,?_,?_⟩
   ·rw [← e507,hkn];unfold suOf;rw [List.take_add_one,s506,List.map_append];rfl
   ·rw [← e507,List.map_append];exact (zaa s506 hs).2.2.2.2.2
 | false =>
  have T3:∀t u oo,Sound (KN w0) Tryz.prog (FL (A1 t) (G1 u) [] (O1 oo)) zpB:=fun t u oo=>⟨e_fbv h502,T1 _ _ _⟩
  have hq:((kn)=su)∧True:=by
   refine ⟨?_,trivial⟩
   (have dh502:=LE e501 h502;have hkl:k=l.length:=(by omega);rw [hkl,List.take_length] at hkn;exact hkn.trans hO)
  obtain ⟨q0,-⟩:=hq
  exact .inl (goes (x:=(.x 0)) (y:=(.x 0)) (Fb:=FL (A1 []) (G1 []) [] (O1 [])) (stb:=zhA) (tl:=(.sl 0 (yh 0)::.sl 1 (yh 1)::.sl 2 (.o (.g [.h 2,.h 3,.h 4]))::.sl 5 (.o (.c (.p 0 0)))::.sl 6 (.o (.c (.k (.slice none 0 0))))::.sl 7 (.o (.c (.p 2 0)))::.sl 8 (.o (.c (.p 900 0)))::.sl 11 (yh 0)::.sl 12 (yh 5)::.sl 14 (.o (.g [.h 2,.h 3,.h 4]))::.sl 15 (yh 6)::.sl 16 (yh 7)::.sl 18 (yh 0)::.sl 19 (yh 8)::.sl 20 (yh 9)::.sl 21 (yh 10)::.sl 22 (yh 1)::.sl 23 (yh 11)::.sl 24 (yh 12)::.sl 26 (.o (.c (.mp 19)))::.sl 27 (.o (.g [.h 2,.h 3,.h 4]))::.sl 28 (.o (.g [.mp 19,.h 2,.h 3,.h 4,.k (.slice none 0 0),.k (.int .i64 0),.k (.pointer none)]))::.sl 29 (.o (.c (.p 900 0)))::.sl 30 (yh 0)::.sl 31 (yh 14)::.bx 0 26 [.h 2,.h 3,.h 4]::.bx 2 37 [.k (.int .i64 0)]::.bx 900 108 [.mp 19,.h 2,.h 3,.h 4,.gr 901,.h 13,.po 902]::.gl 901 45 11 0::.hp [19] [] 2::.hp [902,903,904] [] 1::[]:List Atom)) (C:=zpB) (H:=.no) 6000 (LZ ⟨z_c yy,z_c yy,z_g ⟨yy,yy,yy,trivial⟩,z_c yy,z_c yy,z_c yy,z_c yy,z_c yy,z_c yy,z_g ⟨yy,yy,yy,trivial⟩,z_c yy,z_c yy,z_c yy,z_c yy,z_c yy,z_c yy,z_c yy,z_c yy,z_c yy,z_c yy,z_g ⟨yy,yy,yy,trivial⟩,z_g ⟨yy,yy,yy,yy,yy,yy,yy,trivial⟩,z_c yy,z_c yy,z_c yy,z_c yy,z_b ⟨yy,yy,yy,trivial⟩,z_b ⟨yy,trivial⟩,z_b ⟨yy,yy,yy,yy,yy,yy,yy,trivial⟩,z_gl (fun _ _ _ h=>h),z_hp rfl rfl,z_hp rfl rfl,trivial⟩) (zw (f1 [] trivial) (g1 [] trivial) trivial (o1 [] trivial)) (T3 [] [] []) mixed hR trivial (fun _ _ _ hs=>by cases hs) (by kernel_rfl) rfl (LZ ⟨z_c (LV u0),z_c (LV u1),z_g ⟨LV u2,LV u3,LV u4,trivial⟩,z_c yy,z_c yy,z_c yy,z_c yy,z_c (LV u0),z_c (LV u5),z_g ⟨LV u2,LV u3,LV u4,trivial⟩,z_c (LV u6),z_c (LV u7),z_c (LV u0),z_c (LV u8),z_c (LV u9),z_c (LV u10),z_c (LV u1),z_c (LV u11),z_c (LV u12),z_c yy,z_g ⟨LV u2,LV u3,LV u4,trivial⟩,z_g ⟨yy,LV u2,LV u3,LV u4,yy,yy,yy,trivial⟩,z_c yy,z_c (LV u0),z_c (LV u14),z_b ⟨LV u2,LV u3,LV u4,trivial⟩,z_b ⟨yy,trivial⟩,z_b ⟨yy,LV u2,LV u3,LV u4,yy,LV u13,yy,trivial⟩,z_gq rfl ug0,z_hp (by rw [← q0];rfl) uo2,z_hp rfl uo1,trivial⟩))
abbrev zfh:List (Nat×Ent):=(1000005,.call ⟨31,[yh 0],[],yh 5,[]⟩)::(1000006,.call ⟨55,[.o (.c (.k (.bool true))),yh 5],[],.t [],[]⟩)::(1000008,.call ⟨34,[.o (.g [.h 2,.h 3,.h 4])],[],yh 6,[]⟩)::(1000009,.un .not (yh 6) (yh 7))::[]
abbrev zfi:List (Nat×Ent):=(10007,.fb 7 true)::(1000010,.pan ⟨55,[yh 7,.o (.c (.k (.int .i64 3)))],[],yh 8,[]⟩)::zfh
abbrev zfj:List (Nat×Ent):=(10007,.fb 7 false)::(1000010,.call ⟨55,[yh 7,.o (.c (.k (.int .i64 3)))],[],.t [],[]⟩)::(1000012,.op (.ia 28) [yh 0,LF (.k (.int .i64 0))] [] (yh 8))::(1000013,.op (.fa 56 1) [yh 8] [] (yh 9))::(1000014,.op (.ld 3) [yh 9] [] (yh 10))::(1000016,.op (.len [24] 3) [yh 1] [] (yh 11))::(1000017,.bin .neq 3 (yh 10) (yh 11) (yh 12))::zfh
abbrev zfk:List (Nat×Ent):=(10012,.fb 12 true)::(1000018,.pan ⟨55,[yh 12,.o (.c (.k (.int .i64 18)))],[],yh 13,[]⟩)::zfj
abbrev zfl:List (Nat×Ent):=(10012,.fb 12 false)::(1000018,.call ⟨55,[yh 12,.o (.c (.k (.int .i64 18)))],[],.t [],[]⟩)::(1000019,.mkm 0)::(1000022,.aln 900)::(1000025,.op (.len [28] 3) [yh 0] [] (yh 14))::(1001029,.op (.ia 28) [yh 0,LF (.k (.int .i64 0))] [] (yh 16))::(1001030,.op (.fa 56 2) [yh 16] [] (yh 17))::(1001031,.op (.ld 54) [yh 17] [] (yh 18))::zfj
abbrev zfm:List (Nat×Ent):=(1001033,.call ⟨56,[LF (.p 900 0),yh 18,yh 1,.o (.c (.k (.int .i64 0)))],rnA 15 2 3 4 13 0 1,.t [],rnA 15 19 20 21 22 1 3⟩)::zfl
abbrev zfn:List (Nat×Ent):=(1001035,.call ⟨57,[LF (.p 900 0)],rnA 15 19 20 21 22 1 3,.t [],rnA 15 23 24 25 26 2 4⟩)::zfm
abbrev zfo:List (Nat×Ent):=(1001035,.pan ⟨57,[LF (.p 900 0)],rnA 15 19 20 21 22 1 3,yh 23,[]⟩)::zfm
abbrev zfp:List (Nat×Ent):=(1001033,.pan ⟨56,[LF (.p 900 0),yh 18,yh 1,.o (.c (.k (.int .i64 0)))],rnA 15 2 3 4 13 0 1,yh 19,[]⟩)::zfl
theorem t_run {w0:World} (hL:LibP w0) (l:List Sb) (args:List Int) (start:Vec) (r:List Mov) (k:Int) (hr:runP l args start=(r,k)) (h:zD l=0) (hw:SbW l):Fun (KN w0) Tryz.prog 16 [.o (.c (pLs cSb l)),.o (.c (pLs cI args)),.o (.g [pI start.1,pI start.2.1,pI start.2.2])] (.t [.c (pLs cM r),.c (pI k)]):=by
 obtain ⟨v1,e1⟩:=LX ((0:Int))
 have s2:zD l=0:=by exact h
 have s3:SbW l:=by exact hw
 have s4:(true && (v1 != 0))=false:=by (rw [← e1];rfl)
 obtain ⟨v5,e5⟩:=LX (inV start)
 obtain ⟨v6,e6⟩:=LX (!v5)
 let A1:List Pred→List Pred:=fun t=>pLs cSb l::pLs cI args::pI start.1::pI start.2.1::pI start.2.2::pI v1::pB v5::pB v6::t
 have f1:LA (KN w0) A1:=fun t h=>⟨(zx qg),(zx zR),zb,zb,zb,zb,zb,zb,h⟩
 let G1:List LPred→List LPred:=fun t=>t
 have g1:LG (KN w0) G1:=fun t h=>h
 let O1:List OPred→List OPred:=fun t=>t
 have o1:∀t,zC (KN w0) t→zC (KN w0) (O1 t):=fun t h=>h
 have T1:∀t u oo,Sound (KN w0) Tryz.prog (FL (A1 t) (G1 u) [] (O1 oo)) zfh:=fun t u oo=>⟨zE (zqW hL l v1 e1 s2 s3),zE (zv true v1 s4),zE (t_in start v5 e5),e_un (za rfl) (za rfl) (fun W=>by rw [← e6];exact r_not W),trivial⟩
 cases h7:v6 with
 | true =>
  have s8:(v6 && ((3:Int) != 0))=true:=by (rw [h7];rfl)
  let A2:=fun t=>A1 (pV (.iface 37 (.int .i64 (3:Int)))::t)
  have f2:LA (KN w0) A2:=fun t h=>f1 _ ⟨zb,h⟩
  have T2:∀t u oo,Sound (KN w0) Tryz.prog (FL (A2 t) (G1 u) [] (O1 oo)) zfi:=fun t u oo=>⟨e_fbv h7,b_con (pan:=true) (zh v6 (3:Int) (3:Int) rfl s8),T1 _ _ _⟩
  obtain ⟨q1,q2⟩:r=[]∧k=3:=by
   (have hin:inV start=false:=(by rw [e5];simpa using e6.trans h7);exact Prod.mk.inj (hr.symm.trans (zqC h hin)))
  rw [q1,q2]
  exact zb2 (F:=FL (A2 []) (G1 []) [] (O1 [])) (az0:=[yh 0,yh 1,.o (.g [.h 2,.h 3,.h 4])]) (vir:=[]) (st1:=[.sl 0 (yh 0),.sl 1 (yh 1),.sl 2 (.o (.g [.h 2,.h 3,.h 4])),.sl 5 (.o (.c (.p 0 0))),.sl 6 (.o (.c (.k (.slice none 0 0)))),.sl 7 (.o (.c (.p 2 0))),.bx 0 26 [.h 2,.h 3,.h 4],.bx 2 37 [.k (.int .i64 0)]]) (st2:=[.sl 6 (.o (.c (.k (.slice none 0 0)))),.sl 7 (.o (.c (.p 2 0))),.bx 2 37 [.k (.int .i64 0)]]) (x:=(.p (yh 8))) (e:=8) (m:=0) (b:=2) [0,2] (zw (f2 [] trivial) (g1 [] trivial) trivial (o1 [] trivial)) rfl rfl rfl (fun R hR=>goes (x:=.n) (y:=.n) (Fb:=FL (A2 []) (G1 []) [] (O1 [])) (stb:=[.sl 0 (yh 0),.sl 1 (yh 1),.sl 2 (.o (.g [.h 2,.h 3,.h 4]))]) (tl:=[.sl 0 (yh 0),.sl 1 (yh 1),.sl 2 (.o (.g [.h 2,.h 3,.h 4])),.sl 5 (.o (.c (.p 0 0))),.sl 6 (.o (.c (.k (.slice none 0 0)))),.sl 7 (.o (.c (.p 2 0))),.bx 0 26 [.h 2,.h 3,.h 4],.bx 2 37 [.k (.int .i64 0)]]) (C:=zfi) (H:=⟨[],[],0⟩) 0 (fun _ _ _ _ h=>h) (zw (f2 [] trivial) (g1 [] trivial) trivial (o1 [] trivial)) (T2 [] [] []) mixed hR trivial (fun _ _ _ hs=>by cases hs) (by kernel_rfl) rfl (fun _ _ _ _ h=>h)) (by simp) (by simp) rfl (fun R hR=>goes (x:=(.p (yh 8))) (y:=(.p (yh 8))) (Fb:=FL (A2 []) (G1 []) [] (O1 [])) (stb:=[.sl 0 (yh 0),.sl 1 (yh 1),.sl 2 (.o (.g [.h 2,.h 3,.h 4])),.sl 5 (.o (.c (.p 0 0))),.sl 6 (.o (.c (.k (.slice none 0 0)))),.sl 7 (.o (.c (.p 2 0))),.bx 0 26 [.h 2,.h 3,.h 4],.bx 2 37 [.k (.int .i64 0)]]) (tl:=[.sl 6 (.o (.c (.k (.slice none 0 0)))),.sl 7 (.o (.c (.p 2 0))),.bx 2 37 [.k (.int .i64 0)]]) (C:=zfi) (H:=⟨[],[],0⟩) 4 (fun _ _ _ _ h=>h) (zw (f2 [] trivial) (g1 [] trivial) trivial (o1 [] trivial)) (T2 [] [] []) mixed hR trivial (fun _ _ _ hs=>by cases hs) (by kernel_rfl) (fun _ _ _ h=>h) (fun _ _ _ _ h=>h)) (.inr ⟨rfl,rfl,by simp,by simp,by simp,rfl⟩)
 | false =>
  have s8:(v6 && ((3:Int) != 0))=false:=by (rw [h7];rfl)
  obtain ⟨n9,x10,s11,s12⟩:∃(n9:Nat) (x10:Sb),(0:Int)=(n9:Int)∧l[n9]?=some x10:=by exact ziG h
  obtain ⟨v13,e13⟩:=LX ((args.length:Int))
  obtain ⟨v14,e14⟩:=LX ((x10.2.1 != v13))
  let A3:=fun t=>A1 (pP (cSb x10)::pP ((cSb x10).drop 1)::pI x10.2.1::pI v13::pB v14::t)
  have f3:LA (KN w0) A3:=fun t h=>f1 _ ⟨(zcC (qg _)),(zcC (zc3 (qg _) 1)),zb,zb,zb,h⟩
  have T3:∀t u oo,Sound (KN w0) Tryz.prog (FL (A3 t) (G1 u) [] (O1 oo)) zfj:=fun t u oo=>⟨e_fbv h7,zE (zv v6 (3:Int) s8),e_iaL (E:=56) (z:=3) (fun _=>rfl) (by kernel_rfl) (by kernel_rfl) (zm rfl) zf s11 s12 (zm rfl),e_faD (off:=1) (m:=0) (ps:=(cSb x10)) (by kernel_rfl) (by kernel_rfl) (zm rfl) (zm rfl) (Nat.le_of_ble_eq_true rfl),e_ld1 (by kernel_rfl) (zm rfl) (zm rfl),zcA (E:=3) (by kernel_rfl) (zm rfl) (za (by rw [e13];rfl)),e_bin (za rfl) (za rfl) (za rfl) (r_cmp (LO e14)),T1 _ _ _⟩
  cases h15:v14 with
  | true =>
   have s16:(v14 && ((18:Int) != 0))=true:=by (rw [h15];rfl)
   let A4:=fun t=>A3 (pV (.iface 37 (.int .i64 (18:Int)))::t)
   have f4:LA (KN w0) A4:=fun t h=>f3 _ ⟨zb,h⟩
   have T4:∀t u oo,Sound (KN w0) Tryz.prog (FL (A4 t) (G1 u) [] (O1 oo)) zfk:=fun t u oo=>⟨e_fbv h15,b_con (pan:=true) (zh v14 (18:Int) (18:Int) rfl s16),T3 _ _ _⟩
   obtain ⟨q1,q2⟩:r=[]∧k=18:=by
    (have hin:inV start=true:=(by rw [e5];simpa using e6.trans h7);have n0:n9=0:=(by omega);have hx0:=s12;rw [n0] at hx0;unfold runP at hr;rw [zdt h hin hx0] at hr;rw [if_pos (by rw [e13];exact bne_iff_ne.1 (e14.trans h15))] at hr;exact Prod.mk.inj hr.symm)
   rw [q1,q2]
   exact zb2 (F:=FL (A4 []) (G1 []) [] (O1 [])) (az0:=[yh 0,yh 1,.o (.g [.h 2,.h 3,.h 4])]) (vir:=[]) (st1:=[.sl 0 (yh 0),.sl 1 (yh 1),.sl 2 (.o (.g [.h 2,.h 3,.h 4])),.sl 5 (.o (.c (.p 0 0))),.sl 6 (.o (.c (.k (.slice none 0 0)))),.sl 7 (.o (.c (.p 2 0))),.bx 0 26 [.h 2,.h 3,.h 4],.bx 2 37 [.k (.int .i64 0)]]) (st2:=[.sl 6 (.o (.c (.k (.slice none 0 0)))),.sl 7 (.o (.c (.p 2 0))),.bx 2 37 [.k (.int .i64 0)]]) (x:=(.p (yh 13))) (e:=13) (m:=0) (b:=2) [0,2] (zw (f4 [] trivial) (g1 [] trivial) trivial (o1 [] trivial)) rfl rfl rfl (fun R hR=>goes (x:=.n) (y:=.n) (Fb:=FL (A4 []) (G1 []) [] (O1 [])) (stb:=[.sl 0 (yh 0),.sl 1 (yh 1),.sl 2 (.o (.g [.h 2,.h 3,.h 4]))]) (tl:=[.sl 0 (yh 0),.sl 1 (yh 1),.sl 2 (.o (.g [.h 2,.h 3,.h 4])),.sl 5 (.o (.c (.p 0 0))),.sl 6 (.o (.c (.k (.slice none 0 0)))),.sl 7 (.o (.c (.p 2 0))),.bx 0 26 [.h 2,.h 3,.h 4],.bx 2 37 [.k (.int .i64 0)]]) (C:=zfk) (H:=⟨[],[],0⟩) 0 (fun _ _ _ _ h=>h) (zw (f4 [] trivial) (g1 [] trivial) trivial (o1 [] trivial)) (T4 [] [] []) mixed hR trivial (fun _ _ _ hs=>by cases hs) (by kernel_rfl) rfl (fun _ _ _ _ h=>h)) (by simp) (by simp) rfl (fun R hR=>goes (x:=(.p (yh 13))) (y:=(.p (yh 13))) (Fb:=FL (A4 []) (G1 []) [] (O1 [])) (stb:=[.sl 0 (yh 0),.sl 1 (yh 1),.sl 2 (.o (.g [.h 2,.h 3,.h 4])),.sl 5 (.o (.c (.p 0 0))),.sl 6 (.o (.c (.k (.slice none 0 0)))),.sl 7 (.o (.c (.p 2 0))),.bx 0 26 [.h 2,.h 3,.h 4],.bx 2 37 [.k (.int .i64 0)]]) (tl:=[.sl 6 (.o (.c (.k (.slice none 0 0)))),.sl 7 (.o (.c (.p 2 0))),.bx 2 37 [.k (.int .i64 0)]]) (C:=zfk) (H:=⟨[],[],0⟩) 4 (fun _ _ _ _ h=>h) (zw (f4 [] trivial) (g1 [] trivial) trivial (o1 [] trivial)) (T4 [] [] []) mixed hR trivial (fun _ _ _ hs=>by cases hs) (by kernel_rfl) (fun _ _ _ h=>h) (fun _ _ _ _ h=>h)) (.inr ⟨rfl,rfl,by simp,by simp,by simp,rfl⟩)
  | false =>
   have s16:(v14 && ((18:Int) != 0))=false:=by (rw [h15];rfl)
   obtain ⟨v17,e17⟩:=LX ((l.length:Int))
   obtain ⟨su,hO_ruA⟩:∃(su:(List (List UInt8×Sb))),suOf l=su:=⟨_,rfl⟩
   obtain ⟨n18,x19,s20,s21⟩:∃(n18:Nat) (x19:Sb),(0:Int)=(n18:Int)∧l[n18]?=some x19:=by exact ziG h
   have s22:zax w0 su 7:=by (rw [← hO_ruA];exact zqV (su_ok h hw) 6)
   have s23:7≤7:=by exact Nat.le_refl 7
   have s24:(0:Int)=7 - ((7:Nat):Int):=by rfl
   have s25:x19.2.2.length≤1000000:=by exact (sb_ok h hw _ (List.mem_of_getElem? s21)).1
   have s26:∀x∈x19.2.2,StOk x:=by exact (sb_ok h hw _ (List.mem_of_getElem? s21)).2
   have s27:Gd (start,([]:List Mov),(0:Int),none):=by exact gd0
   let A5:=fun t=>A3 (pI (0:Int)::pI v17::pSu su::pP (cSb x19)::pP ((cSb x19).drop 2)::pLs cSt x19.2.2::t)
   have f5:LA (KN w0) A5:=fun t h=>f3 _ ⟨zb,zb,ziF,(zcC (qg _)),(zcC (zc3 (qg _) 2)),(zx z8),h⟩
   let G5:=fun t=>G1 (pG cM ([]:List Mov)::t)
   have g5:LG (KN w0) G5:=fun t h=>g1 _ ⟨(qc qK),h⟩
   let O5:=fun t=>O1 (oMap pSbV []::oStr w0 none::oMap pSbV su::t)
   have o5:∀t,zC (KN w0) t→zC (KN w0) (O5 t):=fun t h=>o1 _ ⟨(qR qp),zaJ,(qR qp),h⟩
   have T5:∀t u oo,Sound (KN w0) Tryz.prog (FL (A5 t) (G5 u) [] (O5 oo)) zfl:=fun t u oo=>⟨e_fbv h15,zE (zv v14 (18:Int) s16),e_mkm rfl,trivial,zcA (E:=56) (by kernel_rfl) (zm rfl) (za (by rw [e17];rfl)),e_iaL (E:=56) (z:=3) (fun _=>rfl) (by kernel_rfl) (by kernel_rfl) (zm rfl) zf s20 s21 (zm rfl),e_faD (off:=2) (m:=0) (ps:=(cSb x19)) (by kernel_rfl) (by kernel_rfl) (zm rfl) (zm rfl) (Nat.le_of_ble_eq_true rfl),e_ld1 (by kernel_rfl) (zm rfl) (zm rfl),T3 _ _ _⟩
   cases h28:isOk (zB su 7 x19.2.2 args (start,([]:List Mov),(0:Int),none)) with
   | true =>
    obtain ⟨v29,e29⟩:=LX (okOf (zB su 7 x19.2.2 args (start,([]:List Mov),(0:Int),none)))
    have s30:v29.2.1.length≤40:=by exact (za1 7 _ _ _ _ (ok_of h28 e29) gd0).mv
    have s31:∀d,v29.2.2.2=some d→d.2.2.1.length≤1000∧d.2.2.2.length=d.2.2.1.length:=by exact zrL (za1 7 _ _ _ _ (ok_of h28 e29) gd0)
    let A6:=fun t=>A5 (pI v29.1.1::pI v29.1.2.1::pI v29.1.2.2::pI v29.2.2.1::t)
    have f6:LA (KN w0) A6:=fun t h=>f5 _ ⟨zb,zb,zb,zb,h⟩
    let G6:=fun t=>G5 (pG cM v29.2.1::t)
    have g6:LG (KN w0) G6:=fun t h=>g5 _ ⟨(qc qK),h⟩
    let O6:=fun t=>O5 (oStr w0 v29.2.2.2::t)
    have o6:∀t,zC (KN w0) t→zC (KN w0) (O6 t):=fun t h=>o5 _ ⟨zaJ,h⟩
    have T6:∀t u oo,Sound (KN w0) Tryz.prog (FL (A6 t) (G6 u) [] (O6 oo)) zfm:=fun t u oo=>⟨zbw su x19.2.2 args (0:Int) (start,([]:List Mov),(0:Int),none) v29 s22 s23 s24 s25 s26 s27 (ok_of h28 e29) ⟨rfl,rfl,rfl,rfl,rfl,rfl,rfl⟩ ⟨rfl,rfl,rfl,rfl,rfl,rfl,rfl⟩ rfl rfl rfl rfl,T5 _ _ _⟩
    cases h32:isOk (offS (v29.1,v29.2.1,v29.2.2.1,v29.2.2.2)) with
    | true =>
     obtain ⟨v33,e33⟩:=LX (okOf (offS (v29.1,v29.2.1,v29.2.2.1,v29.2.2.2)))
     let A7:=fun t=>A6 (pI v33.1.1::pI v33.1.2.1::pI v33.1.2.2::pI v33.2.2.1::pLs cM v33.2.1::t)
     have f7:LA (KN w0) A7:=fun t h=>f6 _ ⟨zb,zb,zb,zb,(zx qK),h⟩
     let G7:=fun t=>G6 (pG cM v33.2.1::t)
     have g7:LG (KN w0) G7:=fun t h=>g6 _ ⟨(qc qK),h⟩
     let O7:=fun t=>O6 (oStr w0 v33.2.2.2::t)
     have o7:∀t,zC (KN w0) t→zC (KN w0) (O7 t):=fun t h=>o6 _ ⟨zaJ,h⟩
     have T7:∀t u oo,Sound (KN w0) Tryz.prog (FL (A7 t) (G7 u) [] (O7 oo)) zfn:=fun t u oo=>⟨zfb su  (v29.1,v29.2.1,v29.2.2.1,v29.2.2.2) v33 s30 s31 (ok_of h32 e33) ⟨rfl,rfl,rfl,rfl,rfl,rfl,rfl⟩ ⟨rfl,rfl,rfl,rfl,rfl,rfl,rfl⟩ rfl rfl rfl rfl,T6 _ _ _⟩
     have L_ruA:∀R:Frm,R.pm=⟨ntOf Tryz.prog 16,[0,2],[]⟩→zU (KN w0) Tryz.prog (FL (A7 []) (G7 []) [] (O7 [])) R ruA_S (lp Tryz.prog 16 0):=fun R hR=>zl2 l args start v1 v5 v6 n9 x10 v13 v14 v17 h7 h15 su rfl rfl rfl rfl rfl rfl rfl rfl rfl rfl rfl rfl rfl rfl rfl rfl rfl rfl rfl R hR e17 h hw hO_ruA
     obtain ⟨q1,q2⟩:r=v33.2.1∧k=0:=by
      (have hin:inV start=true:=(by rw [e5];simpa using e6.trans h7);have n0:n9=0:=(by omega);have hx0:=s12;rw [n0] at hx0;unfold runP at hr;rw [zdt h hin hx0] at hr;rw [if_neg (by rw [e13];simpa using bne_eq_false_iff_eq.1 (e14.trans h15))] at hr;have n1:n18=0:=(by omega);have hx1:=s21;rw [n1,hx0] at hx1;injection hx1 with hx1;rw [hx1,hO_ruA] at hr;rw [ok_of h28 e29] at hr;dsimp only at hr;rw [show offS v29=.ok v33 from ok_of h32 e33] at hr;dsimp only at hr;exact Prod.mk.inj hr.symm)
     rw [q1,q2]
     exact zb2 (F:=FL (A7 []) (G7 []) [] (O7 [])) (az0:=[yh 0,yh 1,.o (.g [.h 2,.h 3,.h 4])]) (vir:=[902,903,904,901]) (st1:=[.sl 0 (yh 0),.sl 1 (yh 1),.sl 2 (.o (.g [.h 2,.h 3,.h 4])),.sl 5 (.o (.c (.p 0 0))),.sl 6 (.o (.c (.k (.slice none 0 0)))),.sl 7 (.o (.c (.p 2 0))),.bx 0 26 [.h 2,.h 3,.h 4],.bx 2 37 [.k (.int .i64 0)],.gn 902,.gn 903,.gn 904,.gn 901]) (st2:=[.sl 6 (yh 27),.sl 7 (.o (.c (.p 2 0))),.bx 2 37 [.k (.int .i64 0)]]) (x:=.r) (m:=27) (e:=0) (b:=2) [0,2] (zw (f7 [] trivial) (g7 [] trivial) trivial (o7 [] trivial)) rfl rfl rfl (fun R hR=>goes (x:=.n) (y:=.n) (Fb:=FL (A7 []) (G7 []) [] (O7 [])) (stb:=[.sl 0 (yh 0),.sl 1 (yh 1),.sl 2 (.o (.g [.h 2,.h 3,.h 4])),.gn 902,.gn 903,.gn 904,.gn 901]) (tl:=[.sl 0 (yh 0),.sl 1 (yh 1),.sl 2 (.o (.g [.h 2,.h 3,.h 4])),.sl 5 (.o (.c (.p 0 0))),.sl 6 (.o (.c (.k (.slice none 0 0)))),.sl 7 (.o (.c (.p 2 0))),.bx 0 26 [.h 2,.h 3,.h 4],.bx 2 37 [.k (.int .i64 0)],.gn 902,.gn 903,.gn 904,.gn 901]) (C:=zfn) (H:=⟨[ruA_S],[⟨5,[.bx 900 108 [.mp 19,.h 2,.h 3,.h 4,.k (.slice none 0 0),.k (.int .i64 0),.k (.pointer none)],.gn 901],[.bx 900 108 [.mp 19,.h 2,.h 3,.h 4,.gr 901,.k (.int .i64 0),.k (.pointer none)],.gl 901 45 11 0],[]⟩,⟨5,[.bx 900 108 [.mp 19,.h 2,.h 3,.h 4,.gr 901,.k (.int .i64 0),.k (.pointer none)]],[.bx 900 108 [.mp 19,.h 2,.h 3,.h 4,.gr 901,.h 13,.k (.pointer none)]],[]⟩,⟨5,[.bx 900 108 [.mp 19,.h 2,.h 3,.h 4,.gr 901,.h 13,.k (.pointer none)],.gn 902,.gn 903,.gn 904],[.bx 900 108 [.mp 19,.h 2,.h 3,.h 4,.gr 901,.h 13,.po 902],.hp [902,903,904] [] 1],[]⟩,⟨1000011,[.gn 1],[],[]⟩,⟨11,[.hp [19] [] 2,.bx 900 108 [.mp 19,.h 2,.h 3,.h 4,.gr 901,.h 13,.po 902]],[.bx 900 108 [.h 15,.h 2,.h 3,.h 4,.gr 901,.h 13,.po 902]],[19]⟩,⟨13,.gl 901 45 11 2::[6,56].map (fun s=>.sl s (.o (.c (.gr 901)))),[6,56].map (fun s=>.sl s (yh 27)),[901]⟩],0⟩) 0 (fun _ _ _ _ h=>h) (zw (f7 [] trivial) (g7 [] trivial) trivial (o7 [] trivial)) (T7 [] [] []) mixed hR ⟨zG (c:=cM) (i:=4) (ls:=[.mp 19,.h 2,.h 3,.h 4,.k (.slice none 0 0),.k (.int .i64 0),.k (.pointer none)]) rfl rfl,za2 (i:=5) (ls:=[.mp 19,.h 2,.h 3,.h 4,.gr 901,.k (.int .i64 0),.k (.pointer none)]) rfl rfl,qz (w0:=w0) (ls:=[.mp 19,.h 2,.h 3,.h 4,.gr 901,.h 13]) rfl,qA,qP (i:=0) (ls:=[.mp 19,.h 2,.h 3,.h 4,.gr 901,.h 13,.po 902]) (zw (f7 [] trivial) (g7 [] trivial) trivial (o7 [] trivial)) rfl (by decide) rfl rfl rfl,qS (c:=cM) (fun _=>rfl) (by decide) qK rfl rfl,trivial⟩ (fun p hp s hs=>by
       have e:zu (cL (z7 Tryz.prog 16))=[]:=by kernel_rfl
       rw [e] at hp;cases hp) (by kernel_rfl) rfl (fun _ _ _ _ h=>h)) (by simp) (by simp) rfl (fun R hR=>goes (x:=.r) (y:=.r) (Fb:=FL (A7 []) (G7 []) [] (O7 [])) (stb:=[.sl 0 (yh 0),.sl 1 (yh 1),.sl 2 (.o (.g [.h 2,.h 3,.h 4])),.sl 5 (.o (.c (.p 0 0))),.sl 6 (.o (.c (.k (.slice none 0 0)))),.sl 7 (.o (.c (.p 2 0))),.bx 0 26 [.h 2,.h 3,.h 4],.bx 2 37 [.k (.int .i64 0)],.gn 902,.gn 903,.gn 904,.gn 901]) (tl:=[.sl 6 (yh 27),.sl 7 (.o (.c (.p 2 0))),.bx 2 37 [.k (.int .i64 0)]]) (C:=zfn) (H:=⟨[ruA_S],[⟨5,[.bx 900 108 [.mp 19,.h 2,.h 3,.h 4,.k (.slice none 0 0),.k (.int .i64 0),.k (.pointer none)],.gn 901],[.bx 900 108 [.mp 19,.h 2,.h 3,.h 4,.gr 901,.k (.int .i64 0),.k (.pointer none)],.gl 901 45 11 0],[]⟩,⟨5,[.bx 900 108 [.mp 19,.h 2,.h 3,.h 4,.gr 901,.k (.int .i64 0),.k (.pointer none)]],[.bx 900 108 [.mp 19,.h 2,.h 3,.h 4,.gr 901,.h 13,.k (.pointer none)]],[]⟩,⟨5,[.bx 900 108 [.mp 19,.h 2,.h 3,.h 4,.gr 901,.h 13,.k (.pointer none)],.gn 902,.gn 903,.gn 904],[.bx 900 108 [.mp 19,.h 2,.h 3,.h 4,.gr 901,.h 13,.po 902],.hp [902,903,904] [] 1],[]⟩,⟨1000011,[.gn 1],[],[]⟩,⟨11,[.hp [19] [] 2,.bx 900 108 [.mp 19,.h 2,.h 3,.h 4,.gr 901,.h 13,.po 902]],[.bx 900 108 [.h 15,.h 2,.h 3,.h 4,.gr 901,.h 13,.po 902]],[19]⟩,⟨13,.gl 901 45 11 2::[6,56].map (fun s=>.sl s (.o (.c (.gr 901)))),[6,56].map (fun s=>.sl s (yh 27)),[901]⟩],0⟩) 4 (fun _ _ _ _ h=>h) (zw (f7 [] trivial) (g7 [] trivial) trivial (o7 [] trivial)) (T7 [] [] []) mixed hR ⟨zG (c:=cM) (i:=4) (ls:=[.mp 19,.h 2,.h 3,.h 4,.k (.slice none 0 0),.k (.int .i64 0),.k (.pointer none)]) rfl rfl,za2 (i:=5) (ls:=[.mp 19,.h 2,.h 3,.h 4,.gr 901,.k (.int .i64 0),.k (.pointer none)]) rfl rfl,qz (w0:=w0) (ls:=[.mp 19,.h 2,.h 3,.h 4,.gr 901,.h 13]) rfl,qA,qP (i:=0) (ls:=[.mp 19,.h 2,.h 3,.h 4,.gr 901,.h 13,.po 902]) (zw (f7 [] trivial) (g7 [] trivial) trivial (o7 [] trivial)) rfl (by decide) rfl rfl rfl,qS (c:=cM) (fun _=>rfl) (by decide) qK rfl rfl,trivial⟩ (fun p hp s hs=>by
       have e:zu (cR (cR (z7 Tryz.prog 16)))=[(7,lp Tryz.prog 16 0)]:=by kernel_rfl
       rw [e] at hp
       obtain rfl:=List.mem_singleton.1 hp
       have e:s=ruA_S:=(Option.some.inj hs).symm
       subst e;exact L_ruA R hR) (by kernel_rfl) rfl (fun _ _ _ _ h=>h)) (.inl ⟨rfl,by kernel_rfl,rfl,rfl⟩)
    | false =>
     obtain ⟨v33,e33⟩:=LX (errOf (offS (v29.1,v29.2.1,v29.2.2.1,v29.2.2.2)))
     let A8:=fun t=>A6 (pV (.iface 37 (.int .i64 v33))::t)
     have f8:LA (KN w0) A8:=fun t h=>f6 _ ⟨zb,h⟩
     have T8:∀t u oo,Sound (KN w0) Tryz.prog (FL (A8 t) (G6 u) [] (O6 oo)) zfo:=fun t u oo=>⟨zfc su  (v29.1,v29.2.1,v29.2.2.1,v29.2.2.2) v33 s30 s31 (zn h32 e33) ⟨rfl,rfl,rfl,rfl,rfl,rfl,rfl⟩ rfl rfl rfl,T6 _ _ _⟩
     have L_ruA:∀R:Frm,R.pm=⟨ntOf Tryz.prog 16,[0,2],[]⟩→zU (KN w0) Tryz.prog (FL (A8 []) (G6 []) [] (O6 [])) R ruA_S (lp Tryz.prog 16 0):=fun R hR=>zl2 l args start v1 v5 v6 n9 x10 v13 v14 v17 h7 h15 su rfl rfl rfl rfl rfl rfl rfl rfl rfl rfl rfl rfl rfl rfl rfl rfl rfl rfl rfl R hR e17 h hw hO_ruA
     obtain ⟨q1,q2⟩:r=[]∧k=v33:=by
      (have hin:inV start=true:=(by rw [e5];simpa using e6.trans h7);have n0:n9=0:=(by omega);have hx0:=s12;rw [n0] at hx0;unfold runP at hr;rw [zdt h hin hx0] at hr;rw [if_neg (by rw [e13];simpa using bne_eq_false_iff_eq.1 (e14.trans h15))] at hr;have n1:n18=0:=(by omega);have hx1:=s21;rw [n1,hx0] at hx1;injection hx1 with hx1;rw [hx1,hO_ruA] at hr;rw [ok_of h28 e29] at hr;dsimp only at hr;rw [show offS v29=.error v33 from zn h32 e33] at hr;dsimp only at hr;exact Prod.mk.inj hr.symm)
     rw [q1,q2]
     exact zb2 (F:=FL (A8 []) (G6 []) [] (O6 [])) (az0:=[yh 0,yh 1,.o (.g [.h 2,.h 3,.h 4])]) (vir:=[902,903,904,901]) (st1:=[.sl 0 (yh 0),.sl 1 (yh 1),.sl 2 (.o (.g [.h 2,.h 3,.h 4])),.sl 5 (.o (.c (.p 0 0))),.sl 6 (.o (.c (.k (.slice none 0 0)))),.sl 7 (.o (.c (.p 2 0))),.bx 0 26 [.h 2,.h 3,.h 4],.bx 2 37 [.k (.int .i64 0)],.gn 902,.gn 903,.gn 904,.gn 901]) (st2:=[.sl 6 (.o (.c (.k (.slice none 0 0)))),.sl 7 (.o (.c (.p 2 0))),.bx 2 37 [.k (.int .i64 0)]]) (x:=(.p (yh 23))) (e:=23) (m:=0) (b:=2) [0,2] (zw (f8 [] trivial) (g6 [] trivial) trivial (o6 [] trivial)) rfl rfl rfl (fun R hR=>goes (x:=.n) (y:=.n) (Fb:=FL (A8 []) (G6 []) [] (O6 [])) (stb:=[.sl 0 (yh 0),.sl 1 (yh 1),.sl 2 (.o (.g [.h 2,.h 3,.h 4])),.gn 902,.gn 903,.gn 904,.gn 901]) (tl:=[.sl 0 (yh 0),.sl 1 (yh 1),.sl 2 (.o (.g [.h 2,.h 3,.h 4])),.sl 5 (.o (.c (.p 0 0))),.sl 6 (.o (.c (.k (.slice none 0 0)))),.sl 7 (.o (.c (.p 2 0))),.bx 0 26 [.h 2,.h 3,.h 4],.bx 2 37 [.k (.int .i64 0)],.gn 902,.gn 903,.gn 904,.gn 901]) (C:=zfo) (H:=⟨[ruA_S],[⟨5,[.bx 900 108 [.mp 19,.h 2,.h 3,.h 4,.k (.slice none 0 0),.k (.int .i64 0),.k (.pointer none)],.gn 901],[.bx 900 108 [.mp 19,.h 2,.h 3,.h 4,.gr 901,.k (.int .i64 0),.k (.pointer none)],.gl 901 45 11 0],[]⟩,⟨5,[.bx 900 108 [.mp 19,.h 2,.h 3,.h 4,.gr 901,.k (.int .i64 0),.k (.pointer none)]],[.bx 900 108 [.mp 19,.h 2,.h 3,.h 4,.gr 901,.h 13,.k (.pointer none)]],[]⟩,⟨5,[.bx 900 108 [.mp 19,.h 2,.h 3,.h 4,.gr 901,.h 13,.k (.pointer none)],.gn 902,.gn 903,.gn 904],[.bx 900 108 [.mp 19,.h 2,.h 3,.h 4,.gr 901,.h 13,.po 902],.hp [902,903,904] [] 1],[]⟩,⟨1000011,[.gn 1],[],[]⟩,⟨11,[.hp [19] [] 2,.bx 900 108 [.mp 19,.h 2,.h 3,.h 4,.gr 901,.h 13,.po 902]],[.bx 900 108 [.h 15,.h 2,.h 3,.h 4,.gr 901,.h 13,.po 902]],[19]⟩],0⟩) 0 (fun _ _ _ _ h=>h) (zw (f8 [] trivial) (g6 [] trivial) trivial (o6 [] trivial)) (T8 [] [] []) mixed hR ⟨zG (c:=cM) (i:=4) (ls:=[.mp 19,.h 2,.h 3,.h 4,.k (.slice none 0 0),.k (.int .i64 0),.k (.pointer none)]) rfl rfl,za2 (i:=5) (ls:=[.mp 19,.h 2,.h 3,.h 4,.gr 901,.k (.int .i64 0),.k (.pointer none)]) rfl rfl,qz (w0:=w0) (ls:=[.mp 19,.h 2,.h 3,.h 4,.gr 901,.h 13]) rfl,qA,qP (i:=0) (ls:=[.mp 19,.h 2,.h 3,.h 4,.gr 901,.h 13,.po 902]) (zw (f8 [] trivial) (g6 [] trivial) trivial (o6 [] trivial)) rfl (by decide) rfl rfl rfl,trivial⟩ (fun p hp s hs=>by
       have e:zu (cL (z7 Tryz.prog 16))=[]:=by kernel_rfl
       rw [e] at hp;cases hp) (by kernel_rfl) rfl (fun _ _ _ _ h=>h)) (by simp) (by simp) rfl (fun R hR=>goes (x:=(.p (yh 23))) (y:=(.p (yh 23))) (Fb:=FL (A8 []) (G6 []) [] (O6 [])) (stb:=[.sl 0 (yh 0),.sl 1 (yh 1),.sl 2 (.o (.g [.h 2,.h 3,.h 4])),.sl 5 (.o (.c (.p 0 0))),.sl 6 (.o (.c (.k (.slice none 0 0)))),.sl 7 (.o (.c (.p 2 0))),.bx 0 26 [.h 2,.h 3,.h 4],.bx 2 37 [.k (.int .i64 0)],.gn 902,.gn 903,.gn 904,.gn 901]) (tl:=[.sl 6 (.o (.c (.k (.slice none 0 0)))),.sl 7 (.o (.c (.p 2 0))),.bx 2 37 [.k (.int .i64 0)]]) (C:=zfo) (H:=⟨[ruA_S],[⟨5,[.bx 900 108 [.mp 19,.h 2,.h 3,.h 4,.k (.slice none 0 0),.k (.int .i64 0),.k (.pointer none)],.gn 901],[.bx 900 108 [.mp 19,.h 2,.h 3,.h 4,.gr 901,.k (.int .i64 0),.k (.pointer none)],.gl 901 45 11 0],[]⟩,⟨5,[.bx 900 108 [.mp 19,.h 2,.h 3,.h 4,.gr 901,.k (.int .i64 0),.k (.pointer none)]],[.bx 900 108 [.mp 19,.h 2,.h 3,.h 4,.gr 901,.h 13,.k (.pointer none)]],[]⟩,⟨5,[.bx 900 108 [.mp 19,.h 2,.h 3,.h 4,.gr 901,.h 13,.k (.pointer none)],.gn 902,.gn 903,.gn 904],[.bx 900 108 [.mp 19,.h 2,.h 3,.h 4,.gr 901,.h 13,.po 902],.hp [902,903,904] [] 1],[]⟩,⟨1000011,[.gn 1],[],[]⟩,⟨11,[.hp [19] [] 2,.bx 900 108 [.mp 19,.h 2,.h 3,.h 4,.gr 901,.h 13,.po 902]],[.bx 900 108 [.h 15,.h 2,.h 3,.h 4,.gr 901,.h 13,.po 902]],[19]⟩],0⟩) 4 (fun _ _ _ _ h=>h) (zw (f8 [] trivial) (g6 [] trivial) trivial (o6 [] trivial)) (T8 [] [] []) mixed hR ⟨zG (c:=cM) (i:=4) (ls:=[.mp 19,.h 2,.h 3,.h 4,.k (.slice none 0 0),.k (.int .i64 0),.k (.pointer none)]) rfl rfl,za2 (i:=5) (ls:=[.mp 19,.h 2,.h 3,.h 4,.gr 901,.k (.int .i64 0),.k (.pointer none)]) rfl rfl,qz (w0:=w0) (ls:=[.mp 19,.h 2,.h 3,.h 4,.gr 901,.h 13]) rfl,qA,qP (i:=0) (ls:=[.mp 19,.h 2,.h 3,.h 4,.gr 901,.h 13,.po 902]) (zw (f8 [] trivial) (g6 [] trivial) trivial (o6 [] trivial)) rfl (by decide) rfl rfl rfl,trivial⟩ (fun p hp s hs=>by
       have e:zu (cR (cR (z7 Tryz.prog 16)))=[(7,lp Tryz.prog 16 0)]:=by kernel_rfl
       rw [e] at hp
       obtain rfl:=List.mem_singleton.1 hp
       have e:s=ruA_S:=(Option.some.inj hs).symm
       subst e;exact L_ruA R hR) (by kernel_rfl) (fun _ _ _ h=>h) (fun _ _ _ _ h=>h)) (.inr ⟨rfl,rfl,by simp,by simp,by simp,rfl⟩)
   | false =>
    obtain ⟨v29,e29⟩:=LX (errOf (zB su 7 x19.2.2 args (start,([]:List Mov),(0:Int),none)))
    let A9:=fun t=>A5 (pV (.iface 37 (.int .i64 v29))::t)
    have f9:LA (KN w0) A9:=fun t h=>f5 _ ⟨zb,h⟩
    have T9:∀t u oo,Sound (KN w0) Tryz.prog (FL (A9 t) (G5 u) [] (O5 oo)) zfp:=fun t u oo=>⟨zbx su x19.2.2 args (0:Int) (start,([]:List Mov),(0:Int),none) v29 s22 s23 s24 s25 s26 s27 (zn h28 e29) ⟨rfl,rfl,rfl,rfl,rfl,rfl,rfl⟩ rfl rfl rfl,T5 _ _ _⟩
    have L_ruA:∀R:Frm,R.pm=⟨ntOf Tryz.prog 16,[0,2],[]⟩→zU (KN w0) Tryz.prog (FL (A9 []) (G5 []) [] (O5 [])) R ruA_S (lp Tryz.prog 16 0):=fun R hR=>zl2 l args start v1 v5 v6 n9 x10 v13 v14 v17 h7 h15 su rfl rfl rfl rfl rfl rfl rfl rfl rfl rfl rfl rfl rfl rfl rfl rfl rfl rfl rfl R hR e17 h hw hO_ruA
    obtain ⟨q1,q2⟩:r=[]∧k=v29:=by
     (have hin:inV start=true:=(by rw [e5];simpa using e6.trans h7);have n0:n9=0:=(by omega);have hx0:=s12;rw [n0] at hx0;unfold runP at hr;rw [zdt h hin hx0] at hr;rw [if_neg (by rw [e13];simpa using bne_eq_false_iff_eq.1 (e14.trans h15))] at hr;have n1:n18=0:=(by omega);have hx1:=s21;rw [n1,hx0] at hx1;injection hx1 with hx1;rw [hx1,hO_ruA] at hr;rw [zn h28 e29] at hr;dsimp only at hr;exact Prod.mk.inj hr.symm)
    rw [q1,q2]
    exact zb2 (F:=FL (A9 []) (G5 []) [] (O5 [])) (az0:=[yh 0,yh 1,.o (.g [.h 2,.h 3,.h 4])]) (vir:=[902,903,904,901]) (st1:=[.sl 0 (yh 0),.sl 1 (yh 1),.sl 2 (.o (.g [.h 2,.h 3,.h 4])),.sl 5 (.o (.c (.p 0 0))),.sl 6 (.o (.c (.k (.slice none 0 0)))),.sl 7 (.o (.c (.p 2 0))),.bx 0 26 [.h 2,.h 3,.h 4],.bx 2 37 [.k (.int .i64 0)],.gn 902,.gn 903,.gn 904,.gn 901]) (st2:=[.sl 6 (.o (.c (.k (.slice none 0 0)))),.sl 7 (.o (.c (.p 2 0))),.bx 2 37 [.k (.int .i64 0)]]) (x:=(.p (yh 19))) (e:=19) (m:=0) (b:=2) [0,2] (zw (f9 [] trivial) (g5 [] trivial) trivial (o5 [] trivial)) rfl rfl rfl (fun R hR=>goes (x:=.n) (y:=.n) (Fb:=FL (A9 []) (G5 []) [] (O5 [])) (stb:=[.sl 0 (yh 0),.sl 1 (yh 1),.sl 2 (.o (.g [.h 2,.h 3,.h 4])),.gn 902,.gn 903,.gn 904,.gn 901]) (tl:=[.sl 0 (yh 0),.sl 1 (yh 1),.sl 2 (.o (.g [.h 2,.h 3,.h 4])),.sl 5 (.o (.c (.p 0 0))),.sl 6 (.o (.c (.k (.slice none 0 0)))),.sl 7 (.o (.c (.p 2 0))),.bx 0 26 [.h 2,.h 3,.h 4],.bx 2 37 [.k (.int .i64 0)],.gn 902,.gn 903,.gn 904,.gn 901]) (C:=zfp) (H:=⟨[ruA_S],[⟨5,[.bx 900 108 [.mp 19,.h 2,.h 3,.h 4,.k (.slice none 0 0),.k (.int .i64 0),.k (.pointer none)],.gn 901],[.bx 900 108 [.mp 19,.h 2,.h 3,.h 4,.gr 901,.k (.int .i64 0),.k (.pointer none)],.gl 901 45 11 0],[]⟩,⟨5,[.bx 900 108 [.mp 19,.h 2,.h 3,.h 4,.gr 901,.k (.int .i64 0),.k (.pointer none)]],[.bx 900 108 [.mp 19,.h 2,.h 3,.h 4,.gr 901,.h 13,.k (.pointer none)]],[]⟩,⟨5,[.bx 900 108 [.mp 19,.h 2,.h 3,.h 4,.gr 901,.h 13,.k (.pointer none)],.gn 902,.gn 903,.gn 904],[.bx 900 108 [.mp 19,.h 2,.h 3,.h 4,.gr 901,.h 13,.po 902],.hp [902,903,904] [] 1],[]⟩,⟨1000011,[.gn 1],[],[]⟩,⟨11,[.hp [19] [] 2,.bx 900 108 [.mp 19,.h 2,.h 3,.h 4,.gr 901,.h 13,.po 902]],[.bx 900 108 [.h 15,.h 2,.h 3,.h 4,.gr 901,.h 13,.po 902]],[19]⟩],0⟩) 0 (fun _ _ _ _ h=>h) (zw (f9 [] trivial) (g5 [] trivial) trivial (o5 [] trivial)) (T9 [] [] []) mixed hR ⟨zG (c:=cM) (i:=4) (ls:=[.mp 19,.h 2,.h 3,.h 4,.k (.slice none 0 0),.k (.int .i64 0),.k (.pointer none)]) rfl rfl,za2 (i:=5) (ls:=[.mp 19,.h 2,.h 3,.h 4,.gr 901,.k (.int .i64 0),.k (.pointer none)]) rfl rfl,qz (w0:=w0) (ls:=[.mp 19,.h 2,.h 3,.h 4,.gr 901,.h 13]) rfl,qA,qP (i:=0) (ls:=[.mp 19,.h 2,.h 3,.h 4,.gr 901,.h 13,.po 902]) (zw (f9 [] trivial) (g5 [] trivial) trivial (o5 [] trivial)) rfl (by decide) rfl rfl rfl,trivial⟩ (fun p hp s hs=>by
      have e:zu (cL (z7 Tryz.prog 16))=[]:=by kernel_rfl
      rw [e] at hp;cases hp) (by kernel_rfl) rfl (fun _ _ _ _ h=>h)) (by simp) (by simp) rfl (fun R hR=>goes (x:=(.p (yh 19))) (y:=(.p (yh 19))) (Fb:=FL (A9 []) (G5 []) [] (O5 [])) (stb:=[.sl 0 (yh 0),.sl 1 (yh 1),.sl 2 (.o (.g [.h 2,.h 3,.h 4])),.sl 5 (.o (.c (.p 0 0))),.sl 6 (.o (.c (.k (.slice none 0 0)))),.sl 7 (.o (.c (.p 2 0))),.bx 0 26 [.h 2,.h 3,.h 4],.bx 2 37 [.k (.int .i64 0)],.gn 902,.gn 903,.gn 904,.gn 901]) (tl:=[.sl 6 (.o (.c (.k (.slice none 0 0)))),.sl 7 (.o (.c (.p 2 0))),.bx 2 37 [.k (.int .i64 0)]]) (C:=zfp) (H:=⟨[ruA_S],[⟨5,[.bx 900 108 [.mp 19,.h 2,.h 3,.h 4,.k (.slice none 0 0),.k (.int .i64 0),.k (.pointer none)],.gn 901],[.bx 900 108 [.mp 19,.h 2,.h 3,.h 4,.gr 901,.k (.int .i64 0),.k (.pointer none)],.gl 901 45 11 0],[]⟩,⟨5,[.bx 900 108 [.mp 19,.h 2,.h 3,.h 4,.gr 901,.k (.int .i64 0),.k (.pointer none)]],[.bx 900 108 [.mp 19,.h 2,.h 3,.h 4,.gr 901,.h 13,.k (.pointer none)]],[]⟩,⟨5,[.bx 900 108 [.mp 19,.h 2,.h 3,.h 4,.gr 901,.h 13,.k (.pointer none)],.gn 902,.gn 903,.gn 904],[.bx 900 108 [.mp 19,.h 2,.h 3,.h 4,.gr 901,.h 13,.po 902],.hp [902,903,904] [] 1],[]⟩,⟨1000011,[.gn 1],[],[]⟩,⟨11,[.hp [19] [] 2,.bx 900 108 [.mp 19,.h 2,.h 3,.h 4,.gr 901,.h 13,.po 902]],[.bx 900 108 [.h 15,.h 2,.h 3,.h 4,.gr 901,.h 13,.po 902]],[19]⟩],0⟩) 4 (fun _ _ _ _ h=>h) (zw (f9 [] trivial) (g5 [] trivial) trivial (o5 [] trivial)) (T9 [] [] []) mixed hR ⟨zG (c:=cM) (i:=4) (ls:=[.mp 19,.h 2,.h 3,.h 4,.k (.slice none 0 0),.k (.int .i64 0),.k (.pointer none)]) rfl rfl,za2 (i:=5) (ls:=[.mp 19,.h 2,.h 3,.h 4,.gr 901,.k (.int .i64 0),.k (.pointer none)]) rfl rfl,qz (w0:=w0) (ls:=[.mp 19,.h 2,.h 3,.h 4,.gr 901,.h 13]) rfl,qA,qP (i:=0) (ls:=[.mp 19,.h 2,.h 3,.h 4,.gr 901,.h 13,.po 902]) (zw (f9 [] trivial) (g5 [] trivial) trivial (o5 [] trivial)) rfl (by decide) rfl rfl rfl,trivial⟩ (fun p hp s hs=>by
      have e:zu (cR (cR (z7 Tryz.prog 16)))=[(7,lp Tryz.prog 16 0)]:=by kernel_rfl
      rw [e] at hp
      obtain rfl:=List.mem_singleton.1 hp
      have e:s=ruA_S:=(Option.some.inj hs).symm
      subst e;exact L_ruA R hR) (by kernel_rfl) (fun _ _ _ h=>h) (fun _ _ _ _ h=>h)) (.inr ⟨rfl,rfl,by simp,by simp,by simp,rfl⟩)
end Go.Proofs.YteimplkdcjapdaaGreatDoor
namespace Go.Proofs.YteimplkdcjapdaaGreatDoor
open Go.RowKit Go.Shelf
def pLf {α:Type} (c:α→List Pred) (l:List α):Pred:=fun v W D=>pLs c l v W D∧∃a,v=.slice a l.length l.length
section
variable {K:Kit} {P:Program} {F:Fact} {α:Type} {c:α→List Pred}
theorem zkZ (hc:∀x,FineAll K (c x)) {l:List α}:FineC K (pLf c l):=⟨fun hS hO hD h=>⟨(zx hc).mv hS hO hD h.1,h.2⟩,fun h=>(zx hc).ck h.1⟩
theorem zo7 {E:TypeId} {len n:Nat} {ls:List Lf} {l:List α} {ps qs:List Pred} (hn:F.c n=pLf c l) (hp:ls.map (Lf.pr F)=ps) (hlow:ls.all (Lf.low [])=true) (hqs:l.flatMap c=qs) (hq:PImps ps qs) (hl:l.length=len):Ent.sound K P F (.dat E len ls n):=by
 intro β W q vs hv hh hD
 rw [hn]
 have h1:=(zbt hlow).1 hv
 rw [hp] at h1
 have h2:=zeS hq h1
 have h3:=zeT h2
 refine ⟨.inr ⟨q,0,len,E,vs.toArray,(0,0),by rw [hl],hD,hh,?_,Nat.le_of_eq hl⟩,some ⟨q,0,none⟩,by rw [hl]⟩
 show okl _ ((vs.toArray.toList.drop 0).take _) W β.D
 rw [hqs,List.drop_zero,List.take_of_length_le (by simp;omega)]
 exact h2
theorem e_apF {t T:TypeId} {z kb b m k j:Nat} {zs:List Value} {l1 l2:List α} (hu:P.underlying t=some (.slice T)) (hz:szOf P T=some z) (hzo:zah P T=some zs) (hby:zaD P T=some kb) (hz0:0<z) (hk:kb≤128) (hzl:zs.length=z) (hzck:zs.all K.ck=true) (hbt:K.bt T=true) (hcz:∀x,(c x).length=z) (hc:∀x,FineAll K (c x)) (hx:F.c j=pLf c l1) (hy:F.c k=pLs c l2) (h1:l1≠[]) (h2:l2≠[]) (hm:F.g m=pG c (l1++l2)) (hlen:(l1.length+l2.length)*z≤1099511627776):Ent.sound K P F (.ap t [b] (LF (.h j)) (LF (.h k)) (LF (.gr b)) [] [.gl b T z m]):=by
 obtain ⟨i,hi,hiz⟩:∃i,P.info? T=some i∧i.size=z:=by
  unfold szOf at hz
  cases hi:P.info? T with
  | none=>rw [hi] at hz;cases hz
  | some i=>rw [hi] at hz;exact ⟨i,rfl,by simpa using hz⟩
 have hib:i.bytes=kb:=by unfold zaD at hby;rw [hi] at hby;simpa using hby
 obtain ⟨z0,hz0e,hz0c⟩:∃z0,i.zero=some z0∧z0.cells.toList=zs:=by
  unfold zah at hzo
  rw [hi] at hzo
  simp only at hzo
  cases h:i.zero with
  | none=>rw [h] at hzo;cases hzo
  | some z0=>rw [h] at hzo;exact ⟨z0,rfl,by simpa using hzo⟩
 have hzs:z0.cells.size=z:=by rw [← Array.length_toList,hz0c,hzl]
 intro β W vx vy ty hvx hvy _ hg
 have hvx:F.c j vx W β.D:=hvx
 have hvy:F.c k vy W β.D:=hvy
 rw [hx] at hvx;rw [hy] at hvy
 obtain ⟨hvx,a0,rfl⟩:=hvx
 have hp1:=List.length_pos_iff.2 h1
 have hp2:=List.length_pos_iff.2 h2
 rcases hvx with ⟨_,h0,_⟩ | ⟨q1,p1,c1,U1,cs1,f1,e1,hD1,hh1,hk1,hc1⟩
 ·have:=List.eq_nil_of_length_eq_zero h0;exact absurd this h1
 rcases hvy with ⟨_,h0,_⟩ | ⟨q2,p2,c2,U2,cs2,f2,rfl,hD2,hh2,hk2,hc2⟩
 ·have:=List.eq_nil_of_length_eq_zero h0;exact absurd this h2
 simp only [Value.slice.injEq] at e1
 obtain ⟨rfl,-,-⟩:=e1
 have n1:(l1.flatMap c).length=l1.length*z:=qC hcz _
 have n2:(l2.flatMap c).length=l2.length*z:=qC hcz _
 have o1:=zK hk1
 have o2:=zK hk2
 have t1:=o1.trans n1
 have t2:=o2.trans n2
 have g1:∀(cs:Array Value) (q p:Nat) (U:TypeId) (f:Nat×Nat),W.heap[q]?=some (.cells cs U f)→∀n j u,((cs.toList.drop p).take n)[j]?=some u→W.cell? ((⟨q,p,none⟩:Addr).add j)=some u:=fun cs q p U f hh n j u hu=>by
  rw [show (⟨q,p,none⟩:Addr).add j=⟨q,p+j,none⟩ from qW ..,zq hh]
  rw [List.getElem?_take] at hu
  split at hu
  ·simpa using hu
  ·cases hu
 have hb2:l1.length+l2.length≤1099511627776:=Nat.le_trans (Nat.le_mul_of_pos_right _ hz0) hlen
 have hbytes:(l1.length+l2.length)*i.bytes≤140737488355328:=by rw [hib];exact Nat.le_trans (Nat.mul_le_mul hb2 hk) (by decide)
 have hr:=run_append_grow (P:=P) W t ty T i z0 hu hi hz0e ⟨q1,p1,none⟩ l1.length l1.length _ (by rw [o1,n1,hiz]) (g1 cs1 q1 p1 U1 f1 hh1 _) ⟨q2,p2,none⟩ l2.length c2 _ (by rw [o2,n2,hiz]) (g1 cs2 q2 p2 U2 f2 hh2 _) (by omega) (by omega) (growslice_fits (by omega) hbytes)
 have hge:=grownCap_ge W (l1.length+l2.length) l1.length T
 have hcm:grownCap W (l1.length+l2.length) l1.length T≤maxLen:=grownCap_le_maxLen W _ _ T (by simp only [maxLen];omega)
 obtain ⟨cap,hcap⟩:∃cap,grownCap W (l1.length+l2.length) l1.length T=cap:=⟨_,rfl⟩
 rw [hcap] at hr hge hcm
 let β':Loc:=⟨fun x=>if x=b then some W.heap.size else β x,fun x=>if x=b then (l1.length+l2.length,cap) else β.len x,β.D⟩
 have hbb:β' b=some W.heap.size:=if_pos rfl
 have hlb:β'.len b=(l1.length+l2.length,cap):=if_pos rfl
 have hne:∀x,x≠b→β' x=β x:=fun x hx=>if_neg hx
 have hgv:gv β' b=.slice (some ⟨W.heap.size,0,none⟩) (l1.length+l2.length) cap∧glen β' b=l1.length+l2.length:=by unfold gv glen;rw [hbb,hlb];exact ⟨rfl,rfl⟩
 have hO:∀o,Oth (fun _=>False) W (W.drew.alloc o):=fun o=>(Oth.drew _ W).trans (T:=fun _=>False) (Oth.alloc _ _ _) fun _ h _=>h
 have hsz:∀o,(W.drew.alloc o).heap.size=W.heap.size+1:=fun o=>by simp
 refine ⟨_,β',_,hr,⟨fun x q hq=>?_,fun x y q hx hy=>?_,hg.bel.trans ((hO _).ofOth (fun _ h=>h.elim) hg.bel.size),fun x q hq hD=>?_,fun q hq=>Nat.lt_of_lt_of_le (hg.dlt q hq) (hO _).size,hg.low⟩,fun x hx=>⟨hne x (by simpa using hx),if_neg (by simpa using hx)⟩,fun x hx q hq=>?_,(hO _).mono fun _ h=>h.elim,fun _ h=>h,fun _ h=>.inl h,hgv.1.symm,fun A hA=>?_⟩
 ·rw [hsz]
  by_cases hxb:x=b
  ·subst hxb;rw [hbb] at hq;injection hq with hq;omega
  ·rw [hne x hxb] at hq;have:=hg.lt x q hq;omega
 ·by_cases hxb:x=b
  ·by_cases hyb:y=b
   ·rw [hxb,hyb]
   ·subst hxb;rw [hbb] at hx;rw [hne y hyb] at hy;injection hx with hx;have:=hg.lt y q hy;omega
  ·by_cases hyb:y=b
   ·subst hyb;rw [hbb] at hy;rw [hne x hxb] at hx;injection hy with hy;have:=hg.lt x q hx;omega
   ·rw [hne x hxb] at hx;rw [hne y hyb] at hy;exact hg.inj x y q hx hy
 ·by_cases hxb:x=b
  ·subst hxb;rw [hbb] at hq;injection hq with hq;have:=hg.dlt q hD;omega
  ·rw [hne x hxb] at hq;exact hg.dis x q hq hD
 ·obtain rfl:=List.mem_singleton.1 hx
  rw [hbb] at hq;injection hq with hq;exact .inr (by omega)
 ·obtain rfl:=List.mem_singleton.1 hA
  have hcells:=heap_alloc_new W.drew (.cells (((cs1.toList.drop p1).take (l1.flatMap c).length).toArray++((cs2.toList.drop p2).take (l2.flatMap c).length).toArray++Builtin.zeroCells z0.cells (cap - (l1.length+l2.length))) T)
  refine ⟨(cs1.toList.drop p1).take (l1.flatMap c).length++(cs2.toList.drop p2).take (l2.flatMap c).length,⟨?_,.inr ⟨W.heap.size,cap,_,by rw [hgv.2];exact hgv.1,hg.bel.size,hcells,?_,hcm,?_,?_⟩⟩,?_,fun q hq=>?_⟩
  ·rw [hgv.2,List.length_append,o1,o2,n1,n2,Nat.add_mul]
  ·rw [hgv.2];exact hge
  ·simp only [Array.size_append,List.size_toArray,t1,t2,size_zeroCells,hzs,← Nat.add_mul]
   rw [show l1.length+l2.length+(cap - (l1.length+l2.length))=cap by omega]
  ·rw [hgv.2]
   simp only [Array.toList_append,List.append_assoc]
   rw [← List.append_assoc,List.take_append_of_le_length (by rw [List.length_append,o1,o2,n1,n2,Nat.add_mul];exact Nat.le_refl _),List.take_of_length_le (by rw [List.length_append,o1,o2,n1,n2,Nat.add_mul];exact Nat.le_refl _)]
  ·show F.g m _ _ β.D
   rw [hm]
   show okl ((l1++l2).flatMap c) _ _ β.D
   rw [List.flatMap_append]
   exact qB (zaz (K:=K) (S:=fun _=>False) (fun _ h=>h.elim) (hO _) (fun _ h=>h) (qa hc l1) hk1) (zaz (K:=K) (S:=fun _=>False) (fun _ h=>h.elim) (hO _) (fun _ h=>h) (qa hc l2) hk2)
  ·rw [hbb] at hq;injection hq with hq;subst hq
   refine ⟨_,hcells,?_⟩
   simp only [ml,mlf,hbt,Bool.true_and,Array.toList_append,List.all_append,Bool.and_eq_true]
   exact ⟨⟨zfV (qa hc l1) hk1,zfV (qa hc l2) hk2⟩,znd _ (by omega) (by rw [hz0c];exact hzck)⟩
theorem e_apZ {t T:TypeId} {z kb b n m k:Nat} {zs:List Value} {arg:Sh} {pre:List Atom} {l:List α} (hu:P.underlying t=some (.slice T)) (hz:szOf P T=some z) (hzo:zah P T=some zs) (hby:zaD P T=some kb) (hz0:0<z) (hkb:kb≤128) (hzl:zs.length=z) (hzck:zs.all K.ck=true) (hbt:K.bt T=true) (hcz:∀x,(c x).length=z) (hc:∀x,FineAll K (c x)) (hn:F.g m=pG c l) (hk:F.c k=pLs c l) (happ:Ent.sound K P F (.app T z b n m arg pre false)):Ent.sound K P F (.ap t [b] (LF (.gr b)) arg (LF (.h k)) (.gl b T z n::pre) []):=by
 intro β W vx vy ty hvx hvy hp hg
 have hvx:vx=gv β b:=hvx
 obtain ⟨xs,hown,hgn,hmlb⟩:=hp (.gl b T z n) (List.mem_cons_self ..)
 obtain ⟨us,hreads,hus,hstep⟩:=happ β W vy hvy (fun x hx=>hp x (List.mem_cons_of_mem _ hx)) hg
 have hown0:(gv β b).ownBlock=β b:=by
  unfold gv
  split
  ·rename_i e;rw [e];rfl
  ·rename_i q e;rw [e];rfl
 have hlen:=(hstep xs β.D hgn fun _ h=>h).2
 obtain ⟨v',W',n',hrun,ho2,hgb,hblk⟩:=zku (K:=K) (ty:=ty) hu hz hzo hby hz0 hkb hzl hzck hbt hown hg.bel.size hreads hus hlen (fun q hq=>hmlb q (by rw [← hown0];exact hq))
 let cap:Nat:=match v' with
  | .slice _ _ c=>c
  | _=>0
 let β':Loc:=⟨fun c=>if c=b then v'.ownBlock else β c,fun c=>if c=b then (n',cap) else β.len c,β.D⟩
 have hsm:∀c,c≠b→β.same β' c:=fun c hc=>⟨if_neg hc,if_neg hc⟩
 have hbb:β' b=v'.ownBlock:=if_pos rfl
 have hlb:β'.len b=(n',cap):=if_pos rfl
 have hO:Oth (fun q=>∃c∈[b],β c=some q) W W':=by
  refine ⟨hgb.os,hgb.tape,hgb.output,hgb.size,fun q hq hS=>hgb.block q hq fun e=>hS ⟨b,by simp,?_⟩⟩
  rw [hown0] at e;exact e.symm
 have hmls:∀q,(∃c∈[b],β c=some q)→Mlq K β.D W q:=by
  rintro q ⟨c,hc,hq⟩
  rw [List.mem_singleton] at hc
  subst hc
  exact ⟨(hown.lt q (by rw [hown0];exact hq)).1,hg.dis c q hq,hmlb q hq⟩
 have hgv:gv β' b=v'∧glen β' b=n':=by
  unfold gv glen
  rw [hbb,hlb]
  rcases ho2.2 with ⟨rfl,rfl⟩ | ⟨g,cp,cur,rfl,_⟩
  ·exact ⟨rfl,rfl⟩
  ·exact ⟨rfl,rfl⟩
 have hnew:∀q,β' b=some q→β b=some q∨W.heap.size≤q:=fun q hq=>by
  rw [hbb] at hq
  rw [← hown0];exact (hblk q hq).1
 have hlt':∀q,v'.ownBlock=some q→q<W'.heap.size:=fun q hq=>(ho2.lt q hq).2
 have hgeo:Geo K β' W':=by
  refine ⟨fun c q hc=>?_,fun c d q hc hd=>?_,hg.bel.trans (hO.ofOth (fun q hq=>(hmls q hq).1) hg.bel.size),fun c q hc hD=>?_,fun q hq=>Nat.lt_of_lt_of_le (hg.dlt q hq) hO.size,hg.low⟩
  ·by_cases hcb:c=b
   ·subst hcb;exact hlt' q (by rw [← hbb];exact hc)
   ·rw [(hsm c hcb).1] at hc
    exact Nat.lt_of_lt_of_le (hg.lt c q hc) hO.size
  ·by_cases hcb:c=b
   ·by_cases hdb:d=b
    ·rw [hcb,hdb]
    ·exfalso
     subst hcb
     rw [(hsm d hdb).1] at hd
     rcases hnew q hc with h | h
     ·exact hdb (hg.inj d c q hd h)
     ·have:=hg.lt d q hd;omega
   ·by_cases hdb:d=b
    ·exfalso
     subst hdb
     rw [(hsm c hcb).1] at hc
     rcases hnew q hd with h | h
     ·exact hcb (hg.inj c d q hc h)
     ·have:=hg.lt c q hc;omega
    ·rw [(hsm c hcb).1] at hc
     rw [(hsm d hdb).1] at hd
     exact hg.inj c d q hc hd
  ·by_cases hcb:c=b
   ·subst hcb
    rcases hnew q hc with h | h
    ·exact hg.dis c q h hD
    ·have:=hg.dlt q hD;omega
   ·rw [(hsm c hcb).1] at hc
    exact hg.dis c q hc hD
 have hfm:FineL K (F.g m):=by rw [hn];exact qc hc
 have hGL:GL K F β' b T z m W':=by
  refine ⟨xs++us,?_,?_,fun q hq=>?_⟩
  ·rw [hgv.1,hgv.2];exact ho2
  ·exact hfm.mv hmls hO (fun _ h=>h) (hstep xs β.D hgn fun _ h=>h).1
  ·rw [hbb] at hq
   exact (hblk q hq).2
 obtain ⟨β2,g1,g2,g3,g4,g5,g6⟩:=qS (K:=K) (F:=F) (id:=0) (ss:=[0]) (T:=T) hcz hz0 hc hn hk β' ⟨#[v'],[]⟩ W' hgeo (by
  intro A hA
  simp only [List.map_cons,List.map_nil,List.mem_cons,List.not_mem_nil,or_false] at hA
  rcases hA with rfl | rfl
  ·exact hGL
  ·exact hgv.1.symm)
 have hres:F.c k v' W' β2.D:=g6 (.sl 0 (.o (.c (.h k)))) (List.mem_singleton.2 rfl)
 refine ⟨v',β2,W',by rw [hvx];exact hrun,g1,fun c hc=>?_,fun c hc q hq=>?_,hO,fun q hq=>g3 q hq,fun q hq=>?_,hres,fun z hz=>by cases hz⟩
 ·have h1:=hsm c (by simpa using hc)
  have h2:=g2 c (by simpa using hc)
  exact ⟨h2.1.trans h1.1,h2.2.trans h1.2⟩
 ·obtain rfl:=List.mem_singleton.1 hc
  exact hnew q (g5 c (List.mem_singleton.2 rfl) q hq)
 ·rcases g4 q hq with h | ⟨c,hc,h⟩
  ·exact .inl h
  ·obtain rfl:=List.mem_singleton.1 hc
   exact (hnew q h).elim (fun h=>.inr (.inr ⟨c,List.mem_singleton.2 rfl,h⟩)) (fun h=>.inr (.inl h))
end
instance {w0:World} {xs:List Xp}:Fi (KN w0) (.q (pLf cE xs)):=⟨by rw [SV.fine];exact zkZ (zz rfl)⟩
end Go.Proofs.YteimplkdcjapdaaGreatDoor
namespace Go.Proofs.YteimplkdcjapdaaGreatDoor
open Go.RowKit
theorem nil_I:∀v W D,pV (.slice none 0 0) v W D→pLs cI ([]:List Int) v W D:=fun v W D h=>.inl ⟨⟨none,0,h⟩,rfl,rfl⟩
theorem nil_X:∀v W D,pV (.slice none 0 0) v W D→pLs cE ([]:List Xp) v W D:=fun v W D h=>.inl ⟨⟨none,0,h⟩,rfl,rfl⟩
theorem flatE (l:List Xp):l.flatMap cE=l.flatMap fun x=>[pI x.op,pI x.n,pLs cE x.l]:=congrArg (fun f=>l.flatMap f) (funext cE_eq)
theorem zg5 {K:Kit} {F:Fact} {b id n i:Nat} {U:TypeId} {ls:List Lf} {v:Value} (hi:ls[i]?=some (.k v)) (hn:∀W D,F.c n v W D):Gh.sound K F ⟨id,[.bx b U ls],[.bx b U (ls.set i (.h n))],[]⟩:=by
 intro β st W hg hA
 obtain ⟨q,us,h1,h2,h3,h4,h5⟩:=hA _ (List.mem_cons_self ..)
 refine ⟨β,hg,fun _ _=>Loc.same.rfl,fun _ h=>h,fun _ h=>.inl h,fun c hc=>(by cases hc),fun A hAm=>?_⟩
 obtain rfl:=List.mem_singleton.1 hAm
 obtain ⟨u,hu,hv⟩:=zap h3 hi
 have hv:u=v:=hv
 refine ⟨q,us,h1,h2,zaq h3 fun x hx=>?_,h4,h5⟩
 show F.c n x W β.D
 rw [hu] at hx;injection hx with hx
 rw [← hx,hv];exact hn W β.D
def numX (n:Int):Xp:=.mk 1 n []
def qe (p:Vec):List Xp:=[numX p.1,numX p.2.1,numX p.2.2]
def lineX (p:Vec) (f:Int):Stm:=(2,0,[],qe p++[numX f])
def zd9 (p:Vec):Stm:=(1,0,[],qe p)
def sideX (n r:Int):Stm:=if n=0 then (4,0,[],[]) else (4,n,[],[numX r])
def mainX (l:List Stm):List Sb:=[([109,97,105,110],0,l)]
theorem zdA {w0:World} (hL:LibP w0) (l:List Sb) (args:List Int) (start:Vec) (r:List Mov) (k:Int) (hr:(runP l args start).1=r) (hk:(runP l args start).2=k) (h:zD l=0) (hw:SbW l):Fun (KN w0) Tryz.prog 16 [.o (.c (pLs cSb l)),.o (.c (pLs cI args)),.o (.g [pI start.1,pI start.2.1,pI start.2.2])] (.t [.c (pLs cM r),.c (pI k)]):=
 t_run hL l args start r k (by rw [← hr,← hk]) h hw
def zq6:Tr:=.s [(0,.gh ⟨1,[.bx 0 60 [.k (.int .i64 1),.h 0,.k (.slice none 0 0)]],[.bx 0 60 [.k (.int .i64 1),.h 0,.h 1]],[]⟩ 1)] (.z (.ret false (.o (.g [kI 1,0,1])) []))
theorem t_num {w0:World} (n:Int) (r:Xp) (hr:numX n=r):Fun (KN w0) Tryz.prog 49 [.o (.c (pI n))] (.o (.g [pI r.op,pI r.n,pLs cE r.l])):=by
 refine tfn w0 49 ⟨[0],[],[],0,0⟩ ⟨1,[sI n],[],[]⟩ zq6 (by kernel_rfl) ?_
 refine rx [.ls 3 cE kE ([]:List Xp)] [] [] (fun t u w _=>zg5 (i:=2) (ls:=[.k (.int .i64 1),.h 0,.k (.slice none 0 0)]) rfl (fun _ _=>.inl ⟨⟨_,_,rfl⟩,rfl,rfl⟩)) ?_
 intro hc
 refine Fun.fin (r:=.o (.g [pV (.int .i64 1),pI n,pLs cE ([]:List Xp)])) (zc (hc)) (fun v W D h=>?_)
 have r0:r=(Xp.mk (1:Int) n ([]:List Xp)):=by
  exact hr.symm
 rw [r0];exact h
def zj1:Tr:=.s [(4,.call 49 [0] (.o (.g 3))),(7,.call 49 [1] (.o (.g 3))),(10,.call 49 [2] (.o (.g 3))),(0,.raw [(1000011,.dat 60 3 [.h 3,.h 4,.h 5,.h 6,.h 7,.h 8,.h 9,.h 10,.h 11] 12)] 1)] (.z (.ret false (12) []))
theorem zfd {w0:World} (p:Vec) (r:List Xp) (hr:qe p=r):Fun (KN w0) Tryz.prog 69 [.o (.g [pI p.1,pI p.2.1,pI p.2.2])] (.o (.c (pLf cE r))):=by
 refine tfn w0 69 ⟨[.o (.g [0,1,2])],[],[],0,0⟩ ⟨3,[sI p.2.2,sI p.2.1,sI p.1],[],[]⟩ zj1 (by kernel_rfl) ?_
 obtain ⟨v1,e1⟩:=LX (numX p.1)
 refine cx (.o (.g [sI v1.op,sI v1.n,.ls 3 cE kE v1.l])) (t_num p.1 v1 e1) rfl ?_
 obtain ⟨v2,e2⟩:=LX (numX p.2.1)
 refine cx (.o (.g [sI v2.op,sI v2.n,.ls 3 cE kE v2.l])) (t_num p.2.1 v2 e2) rfl ?_
 obtain ⟨v3,e3⟩:=LX (numX p.2.2)
 refine cx (.o (.g [sI v3.op,sI v3.n,.ls 3 cE kE v3.l])) (t_num p.2.2 v3 e3) rfl ?_
 obtain ⟨v4,e4⟩:=LX (([v1,v2,v3]:List Xp))
 refine rx [.q (pLf cE v4)] [] [] (fun t u w=>⟨zo7 (c:=cE) (l:=([v1,v2,v3]:List Xp)) (ps:=(pI v1.op::pI v1.n::pLs cE v1.l::pI v2.op::pI v2.n::pLs cE v2.l::pI v3.op::pI v3.n::pLs cE v3.l::[])) (qs:=(pI v1.op::pI v1.n::pLs cE v1.l::pI v2.op::pI v2.n::pLs cE v2.l::pI v3.op::pI v3.n::pLs cE v3.l::[])) (by rw [e4];rfl) rfl rfl ((flatE _).trans rfl) (pimps (fun _ _ _ h=>h) <| pimps (fun _ _ _ h=>h) <| pimps (fun _ _ _ h=>h) <| pimps (fun _ _ _ h=>h) <| pimps (fun _ _ _ h=>h) <| pimps (fun _ _ _ h=>h) <| pimps (fun _ _ _ h=>h) <| pimps (fun _ _ _ h=>h) <| pimps (fun _ _ _ h=>h) <| ze) rfl,trivial⟩) ?_
 intro hc
 refine Fun.fin (r:=.o (.c (pLf cE v4))) (zc (hc)) (fun v W D h=>?_)
 have r0:r=v4:=by
  rw [← hr];unfold qe;simp_all
 rw [r0];exact h
theorem zhY {w0:World} (p:Vec) (r:List Xp) (hr:qe p=r):Fun (KN w0) Tryz.prog 69 [.o (.g [pI p.1,pI p.2.1,pI p.2.2])] (.o (.c (pLs cE r))):=Fun.fin (zfd p r hr) fun v W D h=>h.1
def zjU:Tr:=.s [(3,.call 69 [.o (.g [0,1,2])] (.o .c)),(5,.call 49 [3] (.o (.g 3))),(0,.raw [(1000006,.dat 60 1 [.h 5,.h 6,.h 7] 8)] 1),(0,.raw [(1000007,.ap 58 [20007] 4 8 (LF (.gr 20007)) [] [.gl 20007 60 3 0])] 0),(0,.gh ⟨1,[.gl 20007 60 3 0,.bx 1 62 [.k (.int .i64 2),.k (.int .i64 0),.k (.string ⟨#[]⟩),.gr 20007]],[.bx 1 62 [.k (.int .i64 2),.k (.int .i64 0),.k (.string ⟨#[]⟩),.h 9]],[20007]⟩ 1)] (.z (.ret false (.o (.g [kI 2,kI 0,.k (.string ⟨#[]⟩),9])) []))
theorem zT {w0:World} (p:Vec) (f:Int) (r:Stm) (hr:lineX p f=r):Fun (KN w0) Tryz.prog 29 [.o (.g [pI p.1,pI p.2.1,pI p.2.2]),.o (.c (pI f))] (.o (.g [pI r.1,pI r.2.1,pS r.2.2.1,pLs cE r.2.2.2])):=by
 refine tfn w0 29 ⟨[.o (.g [0,1,2]),3],[],[20007],0,0⟩ ⟨4,[sI f,sI p.2.2,sI p.2.1,sI p.1],[],[]⟩ zjU (by kernel_rfl) ?_
 obtain ⟨v1,e1⟩:=LX (qe p)
 refine cx (.o (.c (.q (pLf cE v1)))) (zfd p v1 e1) rfl ?_
 obtain ⟨v2,e2⟩:=LX (numX f)
 refine cx (.o (.g [sI v2.op,sI v2.n,.ls 3 cE kE v2.l])) (t_num f v2 e2) rfl ?_
 obtain ⟨v3,e3⟩:=LX (([v2]:List Xp))
 refine rx [.ls 3 cE kE v3] [] [] (fun t u w=>⟨e_dat (c:=cE) (l:=([v2]:List Xp)) (ps:=(pI v2.op::pI v2.n::pLs cE v2.l::[])) (qs:=(pI v2.op::pI v2.n::pLs cE v2.l::[])) (by rw [e3];rfl) rfl rfl ((flatE _).trans rfl) (pimps (fun _ _ _ h=>h) <| pimps (fun _ _ _ h=>h) <| pimps (fun _ _ _ h=>h) <| ze) rfl,trivial⟩) ?_
 obtain ⟨v4,e4⟩:=LX (v1++v3)
 have s5:v1≠[]:=by (rw [← e1];simp [qe])
 have s6:v3≠[]:=by (rw [← e3];simp [qe])
 have s7:(v1.length+v3.length)*3≤1099511627776:=by (rw [← e1,← e3];simp [qe])
 refine rx [] [pG cE v4] [] (fun t u w=>⟨e_apF (zs:=(zah Tryz.prog 60).getD []) (kb:=(zaD Tryz.prog 60).getD 0) (by kernel_rfl) (by kernel_rfl) (by kernel_rfl) (by kernel_rfl) (by decide) (by decide +kernel) (by kernel_rfl) (by kernel_rfl) (by kernel_rfl) qu (zz rfl) rfl rfl s5 s6 (by rw [e4];rfl) s7,trivial⟩) ?_
 refine rx [.ls 3 cE kE v4] [] [] (fun t u w hF=>zP (c:=cE) (i:=3) (ls:=[.k (.int .i64 2),.k (.int .i64 0),.k (.string ⟨#[]⟩),.gr 20007]) hF rfl (by decide) rfl qu (by decide) (zz rfl) rfl rfl) ?_
 intro hc
 refine Fun.fin (r:=.o (.g [pV (.int .i64 2),pV (.int .i64 0),pV (.string ⟨#[]⟩),pLs cE v4])) (zc (hc)) (fun v W D h=>?_)
 have r0:r=((2:Int),(0:Int),[],v4):=by
  rw [← hr];unfold lineX;simp_all
 rw [r0];exact h
def zoz:Tr:=.s [(2,.bin .eql 3 0 (kI 0))] (.b 2 (.s [(0,.gh ⟨2,[.bx 0 62 [.k (.int .i64 4),.k (.int .i64 0),.k (.string ⟨#[]⟩),.k (.slice none 0 0)]],[.bx 0 62 [.k (.int .i64 4),.k (.int .i64 0),.k (.string ⟨#[]⟩),.h 3]],[]⟩ 1)] (.z (.ret false (.o (.g [kI 4,kI 0,.k (.string ⟨#[]⟩),3])) []))) (.s [(5,.call 49 [1] (.o (.g 3))),(0,.raw [(1000006,.dat 60 1 [.h 3,.h 4,.h 5] 6)] 1)] (.z (.ret false (.o (.g [kI 4,0,.k (.string ⟨#[]⟩),6])) []))))
theorem zdB {w0:World} (n r0:Int) (r:Stm) (hr:sideX n r0=r):Fun (KN w0) Tryz.prog 44 [.o (.c (pI n)),.o (.c (pI r0))] (.o (.g [pI r.1,pI r.2.1,pS r.2.2.1,pLs cE r.2.2.2])):=by
 refine tfn w0 44 ⟨[0,1],[],[],0,0⟩ ⟨2,[sI r0,sI n],[],[]⟩ zoz (by kernel_rfl) ?_
 intro v1 e1
 refine ai (fun h2=>?_) fun h2=>?_
 ·
  refine rx [.ls 3 cE kE ([]:List Xp)] [] [] (fun t u w _=>zg5 (i:=3) (ls:=[.k (.int .i64 4),.k (.int .i64 0),.k (.string ⟨#[]⟩),.k (.slice none 0 0)]) rfl (fun _ _=>.inl ⟨⟨_,_,rfl⟩,rfl,rfl⟩)) ?_
  intro hc
  refine Fun.fin (r:=.o (.g [pV (.int .i64 4),pV (.int .i64 0),pV (.string ⟨#[]⟩),pLs cE ([]:List Xp)])) (zc (hc)) (fun v W D h=>?_)
  have r0:r=((4:Int),(0:Int),[],([]:List Xp)):=by
   rw [← hr];unfold sideX;simp_all
  rw [r0];exact h
 ·
  obtain ⟨v3,e3⟩:=LX (numX r0)
  refine cx (.o (.g [sI v3.op,sI v3.n,.ls 3 cE kE v3.l])) (t_num r0 v3 e3) rfl ?_
  obtain ⟨v4,e4⟩:=LX (([v3]:List Xp))
  refine rx [.ls 3 cE kE v4] [] [] (fun t u w=>⟨e_dat (c:=cE) (l:=([v3]:List Xp)) (ps:=(pI v3.op::pI v3.n::pLs cE v3.l::[])) (qs:=(pI v3.op::pI v3.n::pLs cE v3.l::[])) (by rw [e4];rfl) rfl rfl ((flatE _).trans rfl) (pimps (fun _ _ _ h=>h) <| pimps (fun _ _ _ h=>h) <| pimps (fun _ _ _ h=>h) <| ze) rfl,trivial⟩) ?_
  intro hc
  refine Fun.fin (r:=.o (.g [pV (.int .i64 4),pI n,pV (.string ⟨#[]⟩),pLs cE v4])) (zc (hc)) (fun v W D h=>?_)
  have r0:r=((4:Int),n,[],v4):=by
   rw [← hr];unfold sideX;simp_all
  rw [r0];exact h
def zoE:Tr:=.z (.ret false (.o (.g [0,1,2])) [])
theorem qI {w0:World} (x y z:Int) (r:Vec) (hr:(x,y,z)=r):Fun (KN w0) Tryz.prog 21 [.o (.c (pI x)),.o (.c (pI y)),.o (.c (pI z))] (.o (.g [pI r.1,pI r.2.1,pI r.2.2])):=by
 refine tfn w0 21 ⟨[0,1,2],[],[],0,0⟩ ⟨3,[sI z,sI y,sI x],[],[]⟩ zoE (by kernel_rfl) ?_
 intro hc
 refine Fun.fin (r:=.o (.g [pI x,pI y,pI z])) (zc (hc)) (fun v W D h=>?_)
 have r0:r=(x,y,z):=by
  exact hr.symm
 rw [r0];exact h
def zon:Tr:=.s [(0,.raw [(1000003,.dat 56 1 [.k (.string ⟨#[109,97,105,110]⟩),.k (.int .i64 0),.h 0] 1)] 1)] (.z (.ret false (1) []))
theorem zca {w0:World} (l:List Stm) (r:List Sb) (hr:mainX l=r):Fun (KN w0) Tryz.prog 30 [.o (.c (pLs cSt l))] (.o (.c (pLs cSb r))):=by
 refine tfn w0 30 ⟨[0],[],[],0,0⟩ ⟨1,[.ls 4 cSt kSt l],[],[]⟩ zon (by kernel_rfl) ?_
 obtain ⟨v1,e1⟩:=LX (([([109,97,105,110],(0:Int),l)]:List Sb))
 refine rx [.ls 3 cSb kSb v1] [] [] (fun t u w=>⟨e_dat (c:=cSb) (l:=([([109,97,105,110],(0:Int),l)]:List Sb)) (ps:=(pV (.string ⟨#[109,97,105,110]⟩)::pV (.int .i64 0)::pLs cSt l::[])) (qs:=(pS ([109,97,105,110],(0:Int),l).1::pI ([109,97,105,110],(0:Int),l).2.1::pLs cSt (([109,97,105,110],(0:Int),l).2.2)::[])) (by rw [e1];rfl) rfl rfl rfl (pimps (fun _ _ _ h=>h) <| pimps (fun _ _ _ h=>h) <| pimps (fun _ _ _ h=>h) <| ze) rfl,trivial⟩) ?_
 intro hc
 refine Fun.fin (r:=.o (.c (pLs cSb v1))) (zc (hc)) (fun v W D h=>?_)
 have r0:r=v1:=by
  rw [← hr];unfold mainX;simp_all
 rw [r0];exact h
def zj3:Tr:=.s [(3,.call 69 [.o (.g [0,1,2])] (.o .c))] (.z (.ret false (.o (.g [kI 1,kI 0,.k (.string ⟨#[]⟩),3])) []))
theorem zjs {w0:World} (p:Vec) (r:Stm) (hr:zd9 p=r):Fun (KN w0) Tryz.prog 43 [.o (.g [pI p.1,pI p.2.1,pI p.2.2])] (.o (.g [pI r.1,pI r.2.1,pS r.2.2.1,pLs cE r.2.2.2])):=by
 refine tfn w0 43 ⟨[.o (.g [0,1,2])],[],[],0,0⟩ ⟨3,[sI p.2.2,sI p.2.1,sI p.1],[],[]⟩ zj3 (by kernel_rfl) ?_
 obtain ⟨v1,e1⟩:=LX (qe p)
 refine cx (.o (.c (.ls 3 cE kE v1))) (zhY p v1 e1) rfl ?_
 intro hc
 refine Fun.fin (r:=.o (.g [pV (.int .i64 1),pV (.int .i64 0),pV (.string ⟨#[]⟩),pLs cE v1])) (zc (hc)) (fun v W D h=>?_)
 have r0:r=((1:Int),(0:Int),[],v1):=by
  rw [← hr];unfold zd9;simp_all
 rw [r0];exact h
end Go.Proofs.YteimplkdcjapdaaGreatDoor
