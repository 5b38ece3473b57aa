/-
  Merged: PtZc, PtZd, PtZe, PtZf, PtZg, PtZh, PtZi, PtZj, PtZk, PtZl, PtZm.
-/
import Derived.Test.YteimplkdcjapdaaGreatDoorPuS
set_option linter.unusedSimpArgs false
set_option linter.unusedVariables false
set_option maxRecDepth 100000
namespace Go.Proofs.YteimplkdcjapdaaGreatDoor
open Go.RowKit
theorem zkK {K:Kit} {P:Program} {F:Fact} {α:Type} {c:α→List Pred} {z:Nat} {T E:TypeId} {x y o:Lf} {l:List α} {k:IntKind} {i:Int} {j:Nat} (hc:∀x,(c x).length=z) (hT:P.underlying T=some (.slice E)) (hz:szOf P E=some z) (hx:Says F x (pLs c l)) (hy:Gives F y (.int k i)) (hi:i=(j:Int)) (hj:j≤l.length) (ho:Says F o (pLs c (l.drop j))):Ent.sound K P F (.op (.sc T true false false) [LF x,LF y] [] (LF o)):=by
 subst hi
 intro β W vs hs _ _
 match vs,hs with
 | [v,v2],⟨h1,h2,_⟩ =>
  have e2:v2=.int k (j:Int):=(hy β v2 W).1 h2
  subst e2
  rcases (hx β v W).1 h1 with ⟨⟨A,c0,rfl⟩,h0,_⟩ | ⟨q,p,c0,U,cs,fz,rfl,hD,hh,hk,hnc⟩
  ·have hj0:j=0:=by omega
   subst hj0
   have hl:l=[]:=List.eq_nil_of_length_eq_zero h0
   subst hl
   refine ⟨.slice (if c0=0 then A else A.map fun a=>a.add (0*z)) 0 c0,?_,(ho β _ W).2 (.inl ⟨⟨_,_,rfl⟩,rfl,rfl⟩)⟩
   simp [Sig.sem,Instr.sliceAt,Instr.slice,Instr.sliceBounds,Instr.sliceBound,asIntOf,run_underlying hT,qn hz]
  ·by_cases hjc:c0=j
   ·have hlj:l.length=j:=by omega
    refine ⟨.slice (some ⟨q,p,none⟩) (l.length - j) (c0 - j),?_,(ho β _ W).2 (.inl ⟨⟨_,_,by rw [hlj,Nat.sub_self]⟩,by rw [List.length_drop];omega,by rw [List.drop_of_length_le (by omega)];rfl⟩)⟩
    simp [Sig.sem,Instr.sliceAt,Instr.slice,Instr.sliceBounds,Instr.sliceBound,asIntOf,run_underlying hT,qn hz,hjc,hj,hnc]
   ·obtain ⟨h3,h4⟩:=zfJ hc l j
    have hlt:(l.take j).length=j:=by rw [List.length_take];omega
    rw [hlt] at h4
    rw [h3] at hk
    have h5:=(qm hk).2
    rw [h4,List.drop_drop] at h5
    refine ⟨.slice (some ⟨q,p+j*z,none⟩) (l.length - j) (c0 - j),?_,(ho β _ W).2 (.inr ⟨q,p+j*z,c0 - j,U,cs,fz,by rw [List.length_drop],hD,hh,h5,by rw [List.length_drop];omega⟩)⟩
    simp [Sig.sem,Instr.sliceAt,Instr.slice,Instr.sliceBounds,Instr.sliceBound,asIntOf,run_underlying hT,qn hz,hjc,hj,hnc,Addr.add]
 | [],h=>exact h.elim
 | [_],h=>exact h.2.elim
 | _::_::_::_,h=>exact h.2.2.elim
theorem zc6 {l:List Int} {k j:Nat}:(l.drop j).getD k 0=l.getD (j+k) 0:=by simp [List.getD_eq_getElem?_getD,List.getElem?_drop]
theorem za6 {l:List Int} {j:Nat}:vecOf (l.drop j) 0=vecOf l j:=by unfold vecOf;rw [zc6,zc6,zc6];rfl
def zhM:Tr:=.s [(0,.raw [(1000005,.bin .neq 106 (LF (.k (.pointer none))) (LF (.k (.pointer none))) (LF (.k (.bool false))))] 0),(6,.call 55 [LF (kB false),LF (kI 17)] (.t [])),(0,.raw [(1000012,.op (.sc 24 true false false) [9,LF (.k (.int .i64 3))] [] 10)] 1),(13,.call 134 [10] (.o (.g 3))),(15,.call 134 [9] (.o (.g 3))),(17,.ia 24 3 1 9 (kI 6)),(18,.ld 3 0 17),(23,.call 66 [.o (.g [kI 3,1,2,3,11,12,13,14,15,16,18])] (.o .c))] (.r (.s [(0,.raw [(1000024,.pan ⟨55,[.o (.c (.k (.bool true))),19],[],20,[]⟩)] 1)] (.z .no)) (.s [(24,.call 55 [LF (kB true),19] (.t []))] (.r (.s [(0,.raw [(1000027,.call ⟨85,[LF (.p 900 0),.o (.g [.k (.int .i64 3),1,2,3,11,12,13,14,15,16,18])],rnN 0 1 2 3 4 0,.t [],rnN 0 20 21 22 23 1⟩)] 4)] (.z (.ret false (.t []) (rnN 0 20 21 22 23 1)))) (.s [(0,.raw [(1000027,.pan ⟨85,[LF (.p 900 0),.o (.g [.k (.int .i64 3),1,2,3,11,12,13,14,15,16,18])],rnN 0 1 2 3 4 0,20,[]⟩)] 1)] (.z .no)))))
theorem zmh {w0:World} (su:(List (List UInt8×Sb))) (pt:Vec) (mv:(List Mov)) (dn:Int) (x:Stm) (l:(List Int)) (hmv:mv.length≤40) (hl:7≤l.length) (s':Rn) (hr:arcS l (pt,mv,dn,none)=.ok s'):FN w0 111 [.o (.g [pI x.1,pI x.2.1,pS x.2.2.1,pLs cE x.2.2.2]),.o (.c (pLs cI l))] su (pt,mv,dn,none) s' (.t []):=by
 refine tfn w0 111 ⟨[LF (.p 900 0),.o (.g [5,6,7,8]),9],(rnN 0 1 2 3 4 0),[],0,0⟩ ⟨10,[.ls 1 cI kIc l,.ls 3 cE kE x.2.2.2,sS x.2.2.1,sI x.2.1,sI x.1,sI dn,sI pt.2.2,sI pt.2.1,sI pt.1,.q (pSu su)],[pG cM mv],[]⟩ zhM (by kernel_rfl) ?_
 refine rx [] [] [] (fun t u w=>⟨zaZ (by kernel_rfl),trivial⟩) ?_
 have s1:(false && ((17:Int) != 0))=false:=by rfl
 refine cx (.t []) (zv false (17:Int) s1) rfl ?_
 obtain ⟨v2,e2⟩:=LX (l.drop 3)
 have s3:3≤l.length:=by omega
 refine rx [.ls 1 cI kIc v2] [] [] (fun t u w=>⟨zkK (E:=3) (c:=cI) (l:=l) (j:=3) (fun _=>rfl) (by kernel_rfl) (by kernel_rfl) (zm rfl) zf rfl s3 (zm (by rw [e2];rfl)),trivial⟩) ?_
 obtain ⟨v4,e4⟩:=LX (vecOf v2 0)
 have s5:3≤v2.length:=by (rw [← e2,List.length_drop];omega)
 refine cx (.o (.g [sI v4.1,sI v4.2.1,sI v4.2.2])) (t_vec v2 v4 e4 s5) rfl ?_
 obtain ⟨v6,e6⟩:=LX (vecOf l 0)
 have s7:3≤l.length:=by omega
 refine cx (.o (.g [sI v6.1,sI v6.2.1,sI v6.2.2])) (t_vec l v6 e6 s7) rfl ?_
 refine ai (by exact ⟨6,l.getD 6 0,rfl,zZ (by omega)⟩) fun n8 x9 s10 s11=>?_
 obtain ⟨v12,e12⟩:=LX (chkM ((3:Int),pt,v4,v6,x9))
 refine cx (.o (.c (sI v12))) (t_chk ((3:Int),pt,v4,v6,x9) v12 e12) rfl ?_
 cases h13:(v12 != 0) with
 | true =>
  refine Or.inl ?_
  have s14:(true && (v12 != 0))=true:=by (rw [h13];rfl)
  refine rx [.v (.iface 37 (.int .i64 v12))] [] [] (fun t u w=>⟨b_con (pan:=true) (zh true v12 v12 rfl s14),trivial⟩) ?_
  exfalso
  (unfold arcS at hr;simp only [Option.isSome_none,Bool.false_eq_true,if_false] at hr;have hm:arcM l (pt,mv,dn,none)=(3,pt,v4,v6,x9):=(by unfold arcM;rw [zp (k:=6) s11 s10,← za6,e2,e4,e6]);rw [hm,e12] at hr;rw [if_pos (by simpa using h13)] at hr;cases hr)
 | false =>
  refine Or.inr ?_
  have s14:(true && (v12 != 0))=false:=by (rw [h13];rfl)
  refine cx (.t []) (zv true v12 s14) rfl ?_
  have s15:mv.length≤40:=by omega
  cases h16:isOk (addS ((3:Int),pt,v4,v6,x9) (pt,mv,dn,none)) with
  | true =>
   refine Or.inl ?_
   obtain ⟨v17,e17⟩:=LX (okOf (addS ((3:Int),pt,v4,v6,x9) (pt,mv,dn,none)))
   refine rx [sI v17.1.1,sI v17.1.2.1,sI v17.1.2.2,sI v17.2.2.1] [pG cM v17.2.1] [] (fun t u w=>⟨q9 su ((3:Int),pt,v4,v6,x9) (pt,mv,dn,none) v17 rfl s15 (ok_of h16 e17) ⟨rfl,rfl,rfl,rfl,rfl,rfl⟩ ⟨rfl,rfl,rfl,rfl,rfl,rfl⟩ rfl rfl rfl rfl,trivial⟩) ?_
   intro hc
   have hq:s'=(v17.1,v17.2.1,v17.2.2.1,none):=by
    (unfold arcS at hr;simp only [Option.isSome_none,Bool.false_eq_true,if_false] at hr;have hm:arcM l (pt,mv,dn,none)=(3,pt,v4,v6,x9):=(by unfold arcM;rw [zp (k:=6) s11 s10,← za6,e2,e4,e6]);rw [hm,e12] at hr;rw [if_neg (by simpa using h13)] at hr;rw [ok_of h16 e17] at hr;injection hr with hr;rw [← hr];exact zdq (qd (ok_of h16 e17)))
   rw [hq]
   exact fn_of (su:=su) (s:=(pt,mv,dn,none)) (s':=(v17.1,v17.2.1,v17.2.2.1,none)) (hc) ⟨rfl,rfl,rfl,rfl,rfl,rfl⟩ ⟨rfl,rfl,rfl,rfl,rfl,rfl⟩ rfl rfl rfl rfl
  | false =>
   refine Or.inr ?_
   obtain ⟨v17,e17⟩:=LX (errOf (addS ((3:Int),pt,v4,v6,x9) (pt,mv,dn,none)))
   refine rx [.v (.iface 37 (.int .i64 v17))] [] [] (fun t u w=>⟨qH su ((3:Int),pt,v4,v6,x9) (pt,mv,dn,none) v17 rfl s15 (zn h16 e17) ⟨rfl,rfl,rfl,rfl,rfl,rfl⟩ rfl rfl rfl,trivial⟩) ?_
   exfalso
   (unfold arcS at hr;simp only [Option.isSome_none,Bool.false_eq_true,if_false] at hr;have hm:arcM l (pt,mv,dn,none)=(3,pt,v4,v6,x9):=(by unfold arcM;rw [zp (k:=6) s11 s10,← za6,e2,e4,e6]);rw [hm,e12] at hr;rw [if_neg (by simpa using h13)] at hr;rw [zn h16 e17] at hr;cases hr)
def zgg:Tr:=.s [(0,.raw [(1000005,.bin .neq 106 (LF (.k (.pointer none))) (LF (.k (.pointer none))) (LF (.k (.bool false))))] 0),(6,.call 55 [LF (kB false),LF (kI 17)] (.t [])),(0,.raw [(1000012,.op (.sc 24 true false false) [9,LF (.k (.int .i64 3))] [] 10)] 1),(13,.call 134 [10] (.o (.g 3))),(15,.call 134 [9] (.o (.g 3))),(17,.ia 24 3 1 9 (kI 6)),(18,.ld 3 0 17),(23,.call 66 [.o (.g [kI 3,1,2,3,11,12,13,14,15,16,18])] (.o .c))] (.r (.s [(0,.raw [(1000024,.pan ⟨55,[.o (.c (.k (.bool true))),19],[],20,[]⟩)] 1)] (.z (.ret true (20) []))) (.s [(24,.call 55 [LF (kB true),19] (.t []))] (.r (.s [(0,.raw [(1000027,.call ⟨85,[LF (.p 900 0),.o (.g [.k (.int .i64 3),1,2,3,11,12,13,14,15,16,18])],rnN 0 1 2 3 4 0,.t [],rnN 0 20 21 22 23 1⟩)] 4)] (.z .no)) (.s [(0,.raw [(1000027,.pan ⟨85,[LF (.p 900 0),.o (.g [.k (.int .i64 3),1,2,3,11,12,13,14,15,16,18])],rnN 0 1 2 3 4 0,20,[]⟩)] 1)] (.z (.ret true (20) []))))))
theorem zjO {w0:World} (su:(List (List UInt8×Sb))) (pt:Vec) (mv:(List Mov)) (dn:Int) (x:Stm) (l:(List Int)) (hmv:mv.length≤40) (hl:7≤l.length) (k:Int) (hr:arcS l (pt,mv,dn,none)=.error k):PN w0 111 [.o (.g [pI x.1,pI x.2.1,pS x.2.2.1,pLs cE x.2.2.2]),.o (.c (pLs cI l))] su (pt,mv,dn,none) k:=by
 refine tfn w0 111 ⟨[LF (.p 900 0),.o (.g [5,6,7,8]),9],(rnN 0 1 2 3 4 0),[],0,0⟩ ⟨10,[.ls 1 cI kIc l,.ls 3 cE kE x.2.2.2,sS x.2.2.1,sI x.2.1,sI x.1,sI dn,sI pt.2.2,sI pt.2.1,sI pt.1,.q (pSu su)],[pG cM mv],[]⟩ zgg (by kernel_rfl) ?_
 refine rx [] [] [] (fun t u w=>⟨zaZ (by kernel_rfl),trivial⟩) ?_
 have s1:(false && ((17:Int) != 0))=false:=by rfl
 refine cx (.t []) (zv false (17:Int) s1) rfl ?_
 obtain ⟨v2,e2⟩:=LX (l.drop 3)
 have s3:3≤l.length:=by omega
 refine rx [.ls 1 cI kIc v2] [] [] (fun t u w=>⟨zkK (E:=3) (c:=cI) (l:=l) (j:=3) (fun _=>rfl) (by kernel_rfl) (by kernel_rfl) (zm rfl) zf rfl s3 (zm (by rw [e2];rfl)),trivial⟩) ?_
 obtain ⟨v4,e4⟩:=LX (vecOf v2 0)
 have s5:3≤v2.length:=by (rw [← e2,List.length_drop];omega)
 refine cx (.o (.g [sI v4.1,sI v4.2.1,sI v4.2.2])) (t_vec v2 v4 e4 s5) rfl ?_
 obtain ⟨v6,e6⟩:=LX (vecOf l 0)
 have s7:3≤l.length:=by omega
 refine cx (.o (.g [sI v6.1,sI v6.2.1,sI v6.2.2])) (t_vec l v6 e6 s7) rfl ?_
 refine ai (by exact ⟨6,l.getD 6 0,rfl,zZ (by omega)⟩) fun n8 x9 s10 s11=>?_
 obtain ⟨v12,e12⟩:=LX (chkM ((3:Int),pt,v4,v6,x9))
 refine cx (.o (.c (sI v12))) (t_chk ((3:Int),pt,v4,v6,x9) v12 e12) rfl ?_
 cases h13:(v12 != 0) with
 | true =>
  refine Or.inl ?_
  have s14:(true && (v12 != 0))=true:=by (rw [h13];rfl)
  refine rx [.v (.iface 37 (.int .i64 v12))] [] [] (fun t u w=>⟨b_con (pan:=true) (zh true v12 v12 rfl s14),trivial⟩) ?_
  intro hc
  have hq:k=v12:=by
   (unfold arcS at hr;simp only [Option.isSome_none,Bool.false_eq_true,if_false] at hr;have hm:arcM l (pt,mv,dn,none)=(3,pt,v4,v6,x9):=(by unfold arcM;rw [zp (k:=6) s11 s10,← za6,e2,e4,e6]);rw [hm,e12] at hr;rw [if_pos (by simpa using h13)] at hr;injection hr with hr;exact hr.symm)
  rw [hq]
  exact pn_of (su:=su) (s:=(pt,mv,dn,none)) (hc) ⟨rfl,rfl,rfl,rfl,rfl,rfl⟩ rfl rfl rfl
 | false =>
  refine Or.inr ?_
  have s14:(true && (v12 != 0))=false:=by (rw [h13];rfl)
  refine cx (.t []) (zv true v12 s14) rfl ?_
  have s15:mv.length≤40:=by omega
  cases h16:isOk (addS ((3:Int),pt,v4,v6,x9) (pt,mv,dn,none)) with
  | true =>
   refine Or.inl ?_
   obtain ⟨v17,e17⟩:=LX (okOf (addS ((3:Int),pt,v4,v6,x9) (pt,mv,dn,none)))
   refine rx [sI v17.1.1,sI v17.1.2.1,sI v17.1.2.2,sI v17.2.2.1] [pG cM v17.2.1] [] (fun t u w=>⟨q9 su ((3:Int),pt,v4,v6,x9) (pt,mv,dn,none) v17 rfl s15 (ok_of h16 e17) ⟨rfl,rfl,rfl,rfl,rfl,rfl⟩ ⟨rfl,rfl,rfl,rfl,rfl,rfl⟩ rfl rfl rfl rfl,trivial⟩) ?_
   exfalso
   (unfold arcS at hr;simp only [Option.isSome_none,Bool.false_eq_true,if_false] at hr;have hm:arcM l (pt,mv,dn,none)=(3,pt,v4,v6,x9):=(by unfold arcM;rw [zp (k:=6) s11 s10,← za6,e2,e4,e6]);rw [hm,e12] at hr;rw [if_neg (by simpa using h13)] at hr;rw [ok_of h16 e17] at hr;cases hr)
  | false =>
   refine Or.inr ?_
   obtain ⟨v17,e17⟩:=LX (errOf (addS ((3:Int),pt,v4,v6,x9) (pt,mv,dn,none)))
   refine rx [.v (.iface 37 (.int .i64 v17))] [] [] (fun t u w=>⟨qH su ((3:Int),pt,v4,v6,x9) (pt,mv,dn,none) v17 rfl s15 (zn h16 e17) ⟨rfl,rfl,rfl,rfl,rfl,rfl⟩ rfl rfl rfl,trivial⟩) ?_
   intro hc
   have hq:k=v17:=by
    (unfold arcS at hr;simp only [Option.isSome_none,Bool.false_eq_true,if_false] at hr;have hm:arcM l (pt,mv,dn,none)=(3,pt,v4,v6,x9):=(by unfold arcM;rw [zp (k:=6) s11 s10,← za6,e2,e4,e6]);rw [hm,e12] at hr;rw [if_neg (by simpa using h13)] at hr;rw [zn h16 e17] at hr;injection hr with hr;exact hr.symm)
   rw [hq]
   exact pn_of (su:=su) (s:=(pt,mv,dn,none)) (hc) ⟨rfl,rfl,rfl,rfl,rfl,rfl⟩ rfl rfl rfl
def zhN:Tr:=.s [(0,.raw [(1000005,.bin .neq 106 (LF (.p 902 0)) (LF (.k (.pointer none))) (LF (.k (.bool true))))] 0),(0,.raw [(1000006,.pan ⟨55,[.o (.c (.k (.bool true))),.o (.c (.k (.int .i64 17)))],[],14,[]⟩)] 1)] (.z .no)
theorem zmi {w0:World} (su:(List (List UInt8×Sb))) (pt:Vec) (mv:(List Mov)) (dn:Int) (c:Str) (x:Stm) (l:(List Int)) (hmv:mv.length≤40) (hl:7≤l.length) (s':Rn) (hr:arcS l (pt,mv,dn,some c)=.ok s'):∃c',s'.2.2.2=some c'∧FS w0 111 [.o (.g [pI x.1,pI x.2.1,pS x.2.2.1,pLs cE x.2.2.2]),.o (.c (pLs cI l))] su (pt,mv,dn,some c) c s' c' (.t [])∧RF w0 111 [.o (.g [pI x.1,pI x.2.1,pS x.2.2.1,pLs cE x.2.2.2]),.o (.c (pLs cI l))] su (pt,mv,dn,some c) s' (.t []):=by
 refine tfn w0 111 ⟨[LF (.p 900 0),.o (.g [9,10,11,12]),13],(rnS 0 1 2 3 4 0 5 6 7 8 1 2),[],0,0⟩ ⟨14,[.ls 1 cI kIc l,.ls 3 cE kE x.2.2.2,sS x.2.2.1,sI x.2.1,sI x.1,sI c.2.1,sI c.1.2.2,sI c.1.2.1,sI c.1.1,sI dn,sI pt.2.2,sI pt.2.1,sI pt.1,.q (pSu su)],[pG cM mv,pG cV c.2.2.1,pG cI c.2.2.2],[]⟩ zhN (by kernel_rfl) ?_
 refine rx [] [] [] (fun t u w=>⟨zaE (by kernel_rfl),trivial⟩) ?_
 have s1:(true && ((17:Int) != 0))=true:=by rfl
 refine rx [.v (.iface 37 (.int .i64 (17:Int)))] [] [] (fun t u w=>⟨b_con (pan:=true) (zh true (17:Int) (17:Int) rfl s1),trivial⟩) ?_
 exfalso
 (unfold arcS at hr;simp only [Option.isSome_some,if_true] at hr;cases hr)
def zgh:Tr:=.s [(0,.raw [(1000005,.bin .neq 106 (LF (.p 902 0)) (LF (.k (.pointer none))) (LF (.k (.bool true))))] 0),(0,.raw [(1000006,.pan ⟨55,[.o (.c (.k (.bool true))),.o (.c (.k (.int .i64 17)))],[],14,[]⟩)] 1)] (.z (.ret true (14) []))
theorem zjP {w0:World} (su:(List (List UInt8×Sb))) (pt:Vec) (mv:(List Mov)) (dn:Int) (c:Str) (x:Stm) (l:(List Int)) (hmv:mv.length≤40) (hl:7≤l.length) (k:Int) (hr:arcS l (pt,mv,dn,some c)=.error k):RP w0 111 [.o (.g [pI x.1,pI x.2.1,pS x.2.2.1,pLs cE x.2.2.2]),.o (.c (pLs cI l))] su (pt,mv,dn,some c) k:=by
 refine tfn w0 111 ⟨[LF (.p 900 0),.o (.g [9,10,11,12]),13],(rnS 0 1 2 3 4 0 5 6 7 8 1 2),[],0,0⟩ ⟨14,[.ls 1 cI kIc l,.ls 3 cE kE x.2.2.2,sS x.2.2.1,sI x.2.1,sI x.1,sI c.2.1,sI c.1.2.2,sI c.1.2.1,sI c.1.1,sI dn,sI pt.2.2,sI pt.2.1,sI pt.1,.q (pSu su)],[pG cM mv,pG cV c.2.2.1,pG cI c.2.2.2],[]⟩ zgh (by kernel_rfl) ?_
 refine rx [] [] [] (fun t u w=>⟨zaE (by kernel_rfl),trivial⟩) ?_
 have s1:(true && ((17:Int) != 0))=true:=by rfl
 refine rx [.v (.iface 37 (.int .i64 (17:Int)))] [] [] (fun t u w=>⟨b_con (pan:=true) (zh true (17:Int) (17:Int) rfl s1),trivial⟩) ?_
 intro hc
 have hq:k=(17:Int):=by
  (unfold arcS at hr;simp only [Option.isSome_some,if_true] at hr;injection hr with hr;exact hr.symm)
 rw [hq]
 exact zaP (su:=su) (s:=(pt,mv,dn,some c)) (c:=c) (hc) rfl ⟨rfl,rfl,rfl,rfl,rfl,rfl⟩ ⟨rfl,rfl,rfl,rfl,rfl,rfl⟩ rfl rfl rfl
theorem zjK {l:List Int} {s s':Rn} (hs:s.2.2.2=none) (h:zJ l s=.ok s'):s'.2.2.2=none:=by
 unfold zJ at h
 rw [hs] at h
 simp only [Option.isSome_none,Bool.false_eq_true,if_false] at h
 split at h
 ·exact (qd h).trans hs
 ·cases h
theorem znf {l:List Int} {s s':Rn} (hs:s.2.2.2=none) (h:arcS l s=.ok s'):s'.2.2.2=none:=by
 unfold arcS at h
 rw [hs] at h
 simp only [Option.isSome_none,Bool.false_eq_true,if_false] at h
 split at h
 ·cases h
 ·exact (qd h).trans hs
theorem zlp {l:List Int} {s s':Rn} (hs:s.2.2.2=none) (h:lineS l s=.ok s'):s'.2.2.2=none:=by
 unfold lineS at h
 rw [hs] at h
 split at h
 ·exact (qd h).trans hs
 ·cases h
theorem zeg {w0:World} (su:List (List UInt8×Sb)) (x:Stm) (l:List Int) (s s':Rn) (hmv:s.2.1.length≤40) (hl:3≤l.length) (h:zJ l s=.ok s'):RF w0 109 [.o (.g [pI x.1,pI x.2.1,pS x.2.2.1,pLs cE x.2.2.2]),.o (.c (pLs cI l))] su s s' (.t []):=by
 obtain ⟨pt,mv,dn,c⟩:=s
 cases c with
 | none=>exact zeZ rfl (zjK rfl h) (zhZ su pt mv dn x l hmv hl s' h)
 | some c =>
  obtain ⟨c',_,_,h3⟩:=zh0 (w0:=w0) su pt mv dn c x l hmv hl s' h
  exact h3
theorem zeh {w0:World} (su:List (List UInt8×Sb)) (x:Stm) (l:List Int) (s:Rn) (k:Int) (hmv:s.2.1.length≤40) (hl:3≤l.length) (h:zJ l s=.error k):RP w0 109 [.o (.g [pI x.1,pI x.2.1,pS x.2.2.1,pLs cE x.2.2.2]),.o (.c (pLs cI l))] su s k:=by
 obtain ⟨pt,mv,dn,c⟩:=s
 cases c with
 | none=>exact zhz rfl (zgu su pt mv dn x l hmv hl k h)
 | some c=>exact zgv su pt mv dn c x l hmv hl k h
theorem zgm {w0:World} (su:List (List UInt8×Sb)) (x:Stm) (l:List Int) (s s':Rn) (hmv:s.2.1.length≤40) (hl:4≤l.length) (hc:∀c,s.2.2.2=some c→c.2.2.1.length≤1000∧c.2.2.2.length≤1000) (h:lineS l s=.ok s'):RF w0 110 [.o (.g [pI x.1,pI x.2.1,pS x.2.2.1,pLs cE x.2.2.2]),.o (.c (pLs cI l))] su s s' (.t []):=by
 obtain ⟨pt,mv,dn,c⟩:=s
 cases c with
 | none=>exact zeZ rfl (zlp rfl h) (zjV su pt mv dn x l hmv hl s' h)
 | some c =>
  obtain ⟨c',_,_,h3⟩:=zjW (w0:=w0) su pt mv dn c x l hmv hl (hc c rfl).1 (hc c rfl).2 s' h
  exact h3
theorem zgn {w0:World} (su:List (List UInt8×Sb)) (x:Stm) (l:List Int) (s:Rn) (k:Int) (hmv:s.2.1.length≤40) (hl:4≤l.length) (hc:∀c,s.2.2.2=some c→c.2.2.1.length≤1000∧c.2.2.2.length≤1000) (h:lineS l s=.error k):RP w0 110 [.o (.g [pI x.1,pI x.2.1,pS x.2.2.1,pLs cE x.2.2.2]),.o (.c (pLs cI l))] su s k:=by
 obtain ⟨pt,mv,dn,c⟩:=s
 cases c with
 | none=>exact zhz rfl (zhP su pt mv dn x l hmv hl k h)
 | some c=>exact zhQ su pt mv dn c x l hmv hl (hc c rfl).1 (hc c rfl).2 k h
theorem zjo {w0:World} (su:List (List UInt8×Sb)) (x:Stm) (l:List Int) (s s':Rn) (hmv:s.2.1.length≤40) (hl:7≤l.length) (h:arcS l s=.ok s'):RF w0 111 [.o (.g [pI x.1,pI x.2.1,pS x.2.2.1,pLs cE x.2.2.2]),.o (.c (pLs cI l))] su s s' (.t []):=by
 obtain ⟨pt,mv,dn,c⟩:=s
 cases c with
 | none=>exact zeZ rfl (znf rfl h) (zmh su pt mv dn x l hmv hl s' h)
 | some c =>
  obtain ⟨c',_,_,h3⟩:=zmi (w0:=w0) su pt mv dn c x l hmv hl s' h
  exact h3
theorem zjp {w0:World} (su:List (List UInt8×Sb)) (x:Stm) (l:List Int) (s:Rn) (k:Int) (hmv:s.2.1.length≤40) (hl:7≤l.length) (h:arcS l s=.error k):RP w0 111 [.o (.g [pI x.1,pI x.2.1,pS x.2.2.1,pLs cE x.2.2.2]),.o (.c (pLs cI l))] su s k:=by
 obtain ⟨pt,mv,dn,c⟩:=s
 cases c with
 | none=>exact zhz rfl (zjO su pt mv dn x l hmv hl k h)
 | some c=>exact zjP su pt mv dn c x l hmv hl k h
theorem zfu {args:List Int} {l:List Xp} {n:Nat} {x:Xp} (h:l[n]?=some x):valsE args (l.drop n)=if (evalE x args).2≠0 then .error (evalE x args).2 else match valsE args (l.drop (n+1)) with
  | .ok r=>.ok ((evalE x args).1::r)
  | .error e=>.error e:=by
 obtain ⟨hk,rfl⟩:=List.getElem?_eq_some_iff.1 h
 rw [List.drop_eq_getElem_cons hk,valsE]
 rfl
theorem zqn {a:Int} {X:Except Int (List Int)} {r:List Int} (h:(match X with | .ok r=>.ok (a::r) | .error e=>.error e)=(.ok r:Except Int (List Int))):∃r2,X=.ok r2∧r=a::r2:=by
 cases X with
 | ok r2=>injection h with h;exact ⟨r2,rfl,h.symm⟩
 | error e=>cases h
theorem zns {a:Int} {X:Except Int (List Int)} {k:Int} (h:(match X with | .ok r=>.ok (a::r) | .error e=>.error e)=(.error k:Except Int (List Int))):X=.error k:=by
 cases X with
 | ok r2=>cases h
 | error e=>injection h with h;rw [h]
def zh7:List Atom:=[.sl 1 1,.sl 4 (.o (.c (.k (.slice none 0 0)))),.sl 5 (.o (.c (.gr 901))),.sl 10 0,.sl 11 2,.sl 12 3,.gl 901 3 1 1]
def vaA_S:LoopS:=⟨3,zh7.map (tnA (jf [0,1,2,kI 0]) (kf [0,0]) (kf [])),(.x 0),(drs [5] zh7)⟩
def vaA_t:Tr:=.s [(5000,.bin .lss 3 3 2)] (.b 4 (.s [(5001,.ia 58 60 3 0 3),(5002,.ld 60 3 5),(5007,.call 113 [.o (.g [6,7,8]),1] (.t [.c,.c]))] (.r (.s [(0,.raw [(1005014,.pan ⟨55,[.o (.c (.k (.bool true))),10],[],11,[]⟩)] 1)] (.z .no)) (.s [(5014,.call 55 [LF (kB true),10] (.t [])),(0,.raw [(1005017,.dat 3 1 [.h 9] 11)] 1),(0,.raw [(1005018,.app 3 1 901 1 2 11 [] false)] 0),(5020,.bin .add 3 3 (kI 1))] (.z (.nx [0,1,2,12] [0,2] []))))) (.z (.xt (.x 0) [0,1,2] [0,1] [])))
theorem zsB {w0:World} (l:(List Xp)) (args:(List Int)) (v1:Int) (o2:(List Int)) (hv:(l.length:Int)=v1) (hl:l.length≤1000000) (hN:∀e∈l,nodes e≤1000000) (hO:valsE args l=.ok o2):LpH (KN w0) Tryz.prog 82 ⟨ntOf Tryz.prog 82,[],[]⟩ vaA_S 0 ⟨3,[sI v1,.ls 1 cI kIc args,.ls 3 cE kE l],[pG cI ([]:List Int),pG cI o2],[]⟩:=by
 refine zi _ ⟨zh7,vaA_S,(4,2,0),(3,2,0),5000⟩ (T:=Int×(List Int)) (fun t=>⟨4,[sI t.1,sI v1,.ls 1 cI kIc args,.ls 3 cE kE l],[pG cI ([]:List Int),pG cI t.2],[]⟩) (fun (i,o)=>∃k:Nat,i=(k:Int)∧k≤l.length∧o.length=k∧∃r,valsE args (l.drop k)=.ok r∧o++r=o2) (fun (i,o)=>(v1 - i).toNat) ((0:Int),([]:List Int)) [0,1,2,kI 0] [0,0] [] vaA_t mixed ⟨0,rfl,Nat.zero_le _,rfl,o2,by simpa using hO,rfl⟩ rfl rfl rfl rfl (fun _=>rfl) rfl rfl (by kernel_rfl) ?_
 rintro ⟨i,o⟩ hJ
 dsimp only at hJ ⊢
 obtain ⟨k,hi,hk,hol,r,hr,ho⟩:=hJ
 intro v501 e501
 refine ai (fun h502=>?_) fun h502=>?_
 ·
  refine ai (by (have dh502:=LD e501 h502;have hlt:k<l.length:=(by omega);exact ⟨k,_,hi,List.getElem?_eq_getElem hlt⟩)) fun n503 x504 s505 s506=>?_
  obtain ⟨v507,e507⟩:=LX ((evalE x504 args).1)
  obtain ⟨v508,e508⟩:=LX ((evalE x504 args).2)
  have s509:nodes x504≤1000000:=by exact hN _ (List.mem_of_getElem? s506)
  refine cx (.t [.c (sI v507),.c (sI v508)]) (zpX x504 args v507 v508 e507 e508 s509) rfl ?_
  cases h510:(v508 != 0) with
  | true =>
   refine Or.inl ?_
   have s511:(true && (v508 != 0))=true:=by (rw [h510];rfl)
   refine rx [.v (.iface 37 (.int .i64 v508))] [] [] (fun t u w=>⟨b_con (pan:=true) (zh true v508 v508 rfl s511),trivial⟩) ?_
   exfalso
   (have dh502:=LD e501 h502;have hkn:n503=k:=(by omega);subst hkn;have hlt:=(List.getElem?_eq_some_iff.1 s506).1;rw [zfu s506,e507,e508,if_pos (by simpa using h510)] at hr;cases hr)
  | false =>
   refine Or.inr ?_
   have s511:(true && (v508 != 0))=false:=by (rw [h510];rfl)
   refine cx (.t []) (zv true v508 s511) rfl ?_
   obtain ⟨v512,e512⟩:=LX (([v507]:List Int))
   refine rx [.ls 1 cI kIc v512] [] [] (fun t u w=>⟨e_dat (c:=cI) (l:=([v507]:List Int)) (ps:=(pI v507::[])) (qs:=(pI v507::[])) (by rw [e512];rfl) rfl rfl rfl (pimps (fun _ _ _ h=>h) <| ze) rfl,trivial⟩) ?_
   obtain ⟨v513,e513⟩:=LX (o++v512)
   have s514:(o.length+v512.length)*1≤1099511627776:=by (rw [← e512];simp only [List.length_singleton];have dh502:=LD e501 h502;omega)
   refine rx [] [pG cI v513] [] (fun t u w=>⟨zV (c:=cI) zR (fun _=>rfl) rfl (by rw [e513];rfl) rfl s514,trivial⟩) ?_
   intro v515 e515
   refine nxl (v515,v513) ?_ ?_ rfl
   all_goals (have dh502:=LD e501 h502;have hkn:n503=k:=(by omega);subst hkn;have hlt:=(List.getElem?_eq_some_iff.1 s506).1;rw [zfu s506,e507,e508,if_neg (by simpa using h510)] at hr;obtain ⟨r2,h2,h3⟩:=zqn hr;have x3:v515=((n503+1:Nat):Int):=(by rw [← e515,hi,wri (by omega)];omega);have x4:v513=o++[v507]:=(by rw [← e513,← e512]))
   ·show (v1 - v515).toNat<(v1 - i).toNat
    omega
   ·exact ⟨n503+1,x3,by omega,by rw [x4,List.length_append,hol];rfl,r2,h2,by rw [x4,List.append_assoc,← ho,h3];rfl⟩
 ·
  have hq:((o)=o2)∧True:=by
   refine ⟨?_,trivial⟩
   (have dh502:=LE e501 h502;have hkl:k=l.length:=(by omega);subst hkl;rw [List.drop_length,valsE] at hr;injection hr with hr;rw [← hr,List.append_nil] at ho;exact ho)
  obtain ⟨q0,-⟩:=hq
  rw [← q0]
  rfl
def zmL:List Atom:=[.sl 1 1,.sl 4 (.o (.c (.k (.slice none 0 0)))),.sl 5 (.o (.c (.gr 901))),.sl 10 0,.sl 11 2,.sl 12 3,.gl 901 3 1 1]
def vaB_S:LoopS:=⟨3,zmL.map (tnA (jf [0,1,2,kI 0]) (kf [0,0]) (kf [])),(.p (3)),[]⟩
def vaB_t:Tr:=.s [(5000,.bin .lss 3 3 2)] (.b 4 (.s [(5001,.ia 58 60 3 0 3),(5002,.ld 60 3 5),(5007,.call 113 [.o (.g [6,7,8]),1] (.t [.c,.c]))] (.r (.s [(0,.raw [(1005014,.pan ⟨55,[.o (.c (.k (.bool true))),10],[],11,[]⟩)] 1)] (.z (.xt (.p (11)) [0,1,2,11] [0] []))) (.s [(5014,.call 55 [LF (kB true),10] (.t [])),(0,.raw [(1005017,.dat 3 1 [.h 9] 11)] 1),(0,.raw [(1005018,.app 3 1 901 1 2 11 [] false)] 0),(5020,.bin .add 3 3 (kI 1))] (.z (.nx [0,1,2,12] [0,2] []))))) (.z .no))
theorem zsC {w0:World} (l:(List Xp)) (args:(List Int)) (v1:Int) (er:Int) (hv:(l.length:Int)=v1) (hl:l.length≤1000000) (hN:∀e∈l,nodes e≤1000000) (hO:valsE args l=.error er):LpH (KN w0) Tryz.prog 82 ⟨ntOf Tryz.prog 82,[],[]⟩ vaB_S 0 ⟨4,[.v (.iface 37 (.int .i64 er)),sI v1,.ls 1 cI kIc args,.ls 3 cE kE l],[pG cI ([]:List Int)],[]⟩:=by
 refine zi _ ⟨zmL,vaB_S,(4,2,0),(4,1,0),5000⟩ (T:=Int×(List Int)) (fun t=>⟨4,[sI t.1,sI v1,.ls 1 cI kIc args,.ls 3 cE kE l],[pG cI ([]:List Int),pG cI t.2],[]⟩) (fun (i,o)=>∃k:Nat,i=(k:Int)∧k≤l.length∧o.length=k∧valsE args (l.drop k)=.error er) (fun (i,o)=>(v1 - i).toNat) ((0:Int),([]:List Int)) [0,1,2,kI 0] [0,0] [] vaB_t mixed ⟨0,rfl,Nat.zero_le _,rfl,by simpa using hO⟩ rfl rfl rfl rfl (fun _=>rfl) rfl rfl (by kernel_rfl) ?_
 rintro ⟨i,o⟩ hJ
 dsimp only at hJ ⊢
 obtain ⟨k,hi,hk,hol,hr⟩:=hJ
 intro v501 e501
 refine ai (fun h502=>?_) fun h502=>?_
 ·
  refine ai (by (have dh502:=LD e501 h502;have hlt:k<l.length:=(by omega);exact ⟨k,_,hi,List.getElem?_eq_getElem hlt⟩)) fun n503 x504 s505 s506=>?_
  obtain ⟨v507,e507⟩:=LX ((evalE x504 args).1)
  obtain ⟨v508,e508⟩:=LX ((evalE x504 args).2)
  have s509:nodes x504≤1000000:=by exact hN _ (List.mem_of_getElem? s506)
  refine cx (.t [.c (sI v507),.c (sI v508)]) (zpX x504 args v507 v508 e507 e508 s509) rfl ?_
  cases h510:(v508 != 0) with
  | true =>
   refine Or.inl ?_
   have s511:(true && (v508 != 0))=true:=by (rw [h510];rfl)
   refine rx [.v (.iface 37 (.int .i64 v508))] [] [] (fun t u w=>⟨b_con (pan:=true) (zh true v508 v508 rfl s511),trivial⟩) ?_
   have hq:((v508)=er)∧True:=by
    refine ⟨?_,trivial⟩
    (have dh502:=LD e501 h502;have hkn:n503=k:=(by omega);subst hkn;have hlt:=(List.getElem?_eq_some_iff.1 s506).1;rw [zfu s506,e507,e508,if_pos (by simpa using h510)] at hr;injection hr)
   obtain ⟨q0,-⟩:=hq
   rw [← q0]
   rfl
  | false =>
   refine Or.inr ?_
   have s511:(true && (v508 != 0))=false:=by (rw [h510];rfl)
   refine cx (.t []) (zv true v508 s511) rfl ?_
   obtain ⟨v512,e512⟩:=LX (([v507]:List Int))
   refine rx [.ls 1 cI kIc v512] [] [] (fun t u w=>⟨e_dat (c:=cI) (l:=([v507]:List Int)) (ps:=(pI v507::[])) (qs:=(pI v507::[])) (by rw [e512];rfl) rfl rfl rfl (pimps (fun _ _ _ h=>h) <| ze) rfl,trivial⟩) ?_
   obtain ⟨v513,e513⟩:=LX (o++v512)
   have s514:(o.length+v512.length)*1≤1099511627776:=by (rw [← e512];simp only [List.length_singleton];have dh502:=LD e501 h502;omega)
   refine rx [] [pG cI v513] [] (fun t u w=>⟨zV (c:=cI) zR (fun _=>rfl) rfl (by rw [e513];rfl) rfl s514,trivial⟩) ?_
   intro v515 e515
   refine nxl (v515,v513) ?_ ?_ rfl
   all_goals (have dh502:=LD e501 h502;have hkn:n503=k:=(by omega);subst hkn;have hlt:=(List.getElem?_eq_some_iff.1 s506).1;rw [zfu s506,e507,e508,if_neg (by simpa using h510)] at hr;have h2:=zns hr;have x3:v515=((n503+1:Nat):Int):=(by rw [← e515,hi,wri (by omega)];omega);have x4:v513=o++[v507]:=(by rw [← e513,← e512]))
   ·show (v1 - v515).toNat<(v1 - i).toNat
    omega
   ·exact ⟨n503+1,x3,by omega,by rw [x4,List.length_append,hol];rfl,h2⟩
 ·
  exfalso
  (have dh502:=LE e501 h502;have hkl:k=l.length:=(by omega);subst hkl;rw [List.drop_length,valsE] at hr;cases hr)
def zoD:Tr:=.s [(0,.gh ⟨1,[.sl 5 (.o (.c (.k (.slice none 0 0)))),.gn 901],[.sl 5 (.o (.c (.gr 901))),.gl 901 3 1 0],[]⟩ 0),(3,.ln 58 3 0)] (.r (.s [(0,.lp vaA_S 0 0),(0,.gh ⟨9,.gl 901 3 1 1::[4].map (fun s=>.sl s (.o (.c (.gr 901)))),[4].map (fun s=>.sl s 3),[901]⟩ 1)] (.z (.ret false (3) []))) (.z .no))
theorem zbh {w0:World} (l:List Xp) (args:List Int) (r:List Int) (hr:valsE args l=.ok r) (hl:l.length≤1000000) (hN:∀e∈l,nodes e≤1000000):Fun (KN w0) Tryz.prog 82 [.o (.c (pLs cE l)),.o (.c (pLs cI args))] (.o (.c (pLs cI r))):=by
 refine tfn w0 82 ⟨[0,1],[],[901],0,0⟩ ⟨2,[.ls 1 cI kIc args,.ls 3 cE kE l],[],[]⟩ zoD (by kernel_rfl) ?_
 refine rx [] [pG cI ([]:List Int)] [] (fun t u w _=>zbT (c:=cI) rfl) ?_
 intro v1 e1
 by_cases c3:isOk (valsE args l)=true
 ·
  refine Or.inl ?_
  obtain ⟨o2,hO_vaA⟩:∃(o2:(List Int)),valsE args l=.ok o2:=(by cases h:valsE args l with | ok r=>exact ⟨r,rfl⟩ | error e=>rw [h] at c3;cases c3)
  refine rx [] [pG cI o2] [] (zsB l args v1  o2  e1 hl hN hO_vaA) ?_
  refine rx [.ls 1 cI kIc o2] [] [] (fun t u w _=>qS (c:=cI) (fun _=>rfl) (by decide) zR rfl rfl) ?_
  intro hc
  refine Fun.fin (r:=.o (.c (pLs cI o2))) (zc (hc)) (fun v W D h=>?_)
  have r0:r=o2:=by
   exact Except.ok.inj (hr.symm.trans hO_vaA)
  rw [r0];exact h
 ·
  refine Or.inr ?_
  rw [hr] at c3;exact absurd rfl c3
def zmE:Tr:=.s [(0,.gh ⟨1,[.sl 5 (.o (.c (.k (.slice none 0 0)))),.gn 901],[.sl 5 (.o (.c (.gr 901))),.gl 901 3 1 0],[]⟩ 0),(3,.ln 58 3 0)] (.r (.z .no) (.s [(0,.lp vaB_S 0 1)] (.z (.ret true (3) []))))
theorem zac {w0:World} (l:List Xp) (args:List Int) (k:Int) (hr:valsE args l=.error k) (hl:l.length≤1000000) (hN:∀e∈l,nodes e≤1000000):BFun true (KN w0) Tryz.prog 82 [.o (.c (.d (pLs cE l))),.o (.c (.d (pLs cI args)))] [] (.o (.c (.d (pV (.iface 37 (.int .i64 k)))))) []:=by
 refine tfn w0 82 ⟨[0,1],[],[901],0,0⟩ ⟨2,[.ls 1 cI kIc args,.ls 3 cE kE l],[],[]⟩ zmE (by kernel_rfl) ?_
 refine rx [] [pG cI ([]:List Int)] [] (fun t u w _=>zbT (c:=cI) rfl) ?_
 intro v1 e1
 by_cases c3:isOk (valsE args l)=true
 ·
  rw [hr] at c3;cases c3
 ·
  refine Or.inr ?_
  obtain ⟨er,hO_vaB⟩:∃(er:Int),valsE args l=.error er:=(by cases h:valsE args l with | ok r=>rw [h] at c3;exact absurd rfl c3 | error e=>exact ⟨e,rfl⟩)
  refine rx [.v (.iface 37 (.int .i64 er))] [] [] (zsC l args v1  er  e1 hl hN hO_vaB) ?_
  intro hc
  have r0:k=er:=by
   exact Except.error.inj (hr.symm.trans hO_vaB)
  rw [r0];exact con_b (pan:=true) (hc)
end Go.Proofs.YteimplkdcjapdaaGreatDoor
namespace Go.Proofs.YteimplkdcjapdaaGreatDoor
open Go.RowKit Go.Shelf
theorem zap {F:Fact} {β:Loc} {W:World}:∀{ls:List Lf} {us:List Value} {i:Nat} {l:Lf},oks F β ls us W→ls[i]?=some l→∃u,us[i]?=some u∧l.ok F β u W
 | l::_,u::_,0,x,h,hi=>⟨u,rfl,by simp only [List.getElem?_cons_zero,Option.some.injEq] at hi;subst hi;exact h.1⟩
 | _::ls,_::us,i+1,x,h,hi=>by
  obtain ⟨u,h1,h2⟩:=zap (i:=i) h.2 (by simpa using hi)
  exact ⟨u,by simpa using h1,h2⟩
 | [],_,_,_,_,hi=>by simp at hi
 | _::_,[],_,_,h,_=>h.elim
theorem e_ixH {K:Kit} {P:Program} {F:Fact} {T E:TypeId} {n i:Nat} {ls:List Lf} {l y:Lf} {v:Int} (hT:P.underlying T=some (.array n E)) (hz:szOf P E=some 1) (ha:aggOf P E=some false) (hy:Gives F y (.int .i64 v)) (hv:v=(i:Int)) (hi:ls[i]?=some l) (hn:i<n):Ent.sound K P F (.op (.ix T) [.o (.g ls),LF y] [] (LF l)):=by
 subst hv
 intro β W vs hs _ _
 match vs,hs with
 | [v,w],⟨⟨us,e,h1⟩,h2,_⟩ =>
  subst e
  obtain rfl:=(hy β w W).1 h2
  obtain ⟨u,hu,hl⟩:=zap h1 hi
  refine ⟨u,?_,hl⟩
  have hu2:us[i]?=some u:=by rw [← Array.getElem?_toList];exact hu
  have hlt:(i:Int)<(n:Int):=by omega
  simp [Sig.sem,Instr.index,asIntOf,run_underlying hT,hlt,qn hz,part,zbl ha,hu2]
  exact fun h=>absurd h (by omega)
 | [],h=>exact h.elim
 | [_],h=>exact h.2.elim
 | _::_::_::_,h=>exact h.2.2.elim
end Go.Proofs.YteimplkdcjapdaaGreatDoor
namespace Go.Proofs.YteimplkdcjapdaaGreatDoor
open Go.RowKit
abbrev zb9:List (Nat×Ent):=[]
theorem zef {w0:World} {F:Fact}:Con.sound (KN w0) Tryz.prog F ⟨81,[],[],.o (.g [.k (.nilFunc),.q 109 [],.q 110 [],.q 111 [],.q 112 []]),[]⟩:=by
 let A1:List Pred→List Pred:=fun t=>t
 have f1:LA (KN w0) A1:=fun t h=>h
 have T1:LT (KN w0) Tryz.prog A1 zb9:=fun t=>trivial
 exact zfA (F0:=FL (A1 []) []) (zba (F:=FL (A1 []) []) (C:=zb9) (k:=⟨81,[],[],.o (.g [.k (.nilFunc),.q 109 [],.q 110 [],.q 111 [],.q 112 []]),[]⟩) 0 (zw (f1 [] trivial)) (T1 []) mixed (by kernel_rfl)) rfl (fun _ _ vs h=>by cases vs with | nil=>exact h | cons _ _=>exact h.elim) (fun _ _ _ _ _ B hB=>by cases hB) rfl rfl (fun _ _ _ ⟨us,e,h⟩=>⟨us,e,zcM (F:=FL (A1 []) []) (F':=F) (ls:=[.k (.nilFunc),.q 109 [],.q 110 [],.q 111 [],.q 112 []]) (ms:=[.k (.nilFunc),.q 109 [],.q 110 [],.q 111 [],.q 112 []]) ⟨fun _ _ _ h=>h,fun _ _ _ h=>h,fun _ _ _ h=>h,fun _ _ _ h=>h,fun _ _ _ h=>h,trivial⟩ h⟩) (fun _ _ _ _ _ B hB=>by cases hB)
section
variable {K:Kit} {F:Fact}
theorem zaq {β:Loc} {W:World}:∀{ls:List Lf} {us:List Value} {i:Nat} {y:Lf},oks F β ls us W→(∀u,us[i]?=some u→y.ok F β u W)→oks F β (ls.set i y) us W
 | [],[],_,_,_,_=>trivial
 | _::_,_::_,0,_,h,hy=>⟨hy _ rfl,h.2⟩
 | _::_,_::_,_+1,_,h,hy=>⟨h.1,zaq h.2 fun u hu=>hy u (by simpa using hu)⟩
 | [],_::_,_,_,h,_=>h.elim
 | _::_,[],_,_,h,_=>h.elim
theorem zg7 {g:Nat} {x y:Lf} (h:x.has g=y.has g):∀{ls:List Lf} {i:Nat},lfs g (ls.set i x)=lfs g (ls.set i y)
 | [],_=>rfl
 | _::_,0=>by simp [lfs,h]
 | a::ls,i+1=>by
  have:=zg7 h (ls:=ls) (i:=i)
  simp only [lfs,List.set_cons_succ,List.any_cons] at this ⊢
  rw [this]
theorem zG {α:Type} {c:α→List Pred} {z b g n id i:Nat} {T U:TypeId} {ls:List Lf} (hi:ls[i]?=some (.k (.slice none 0 0))) (hn:F.g n=pG c ([]:List α)):Gh.sound K F ⟨id,[.bx b U ls,.gn g],[.bx b U (ls.set i (.gr g)),.gl g T z n],[]⟩:=by
 intro β a W hg hA
 obtain ⟨q,us,h1,h2,h3,h4⟩:=hA (.bx b U ls) (by simp)
 have hb:β g=none:=hA (.gn g) (by simp)
 refine ⟨β,hg,fun _ _=>Loc.same.rfl,fun _ h=>h,fun _ h=>.inl h,fun c hc=>(by cases hc),fun A hAm=>?_⟩
 simp only [List.mem_cons,List.not_mem_nil,or_false] at hAm
 rcases hAm with rfl | rfl
 ·obtain ⟨u,hu,hv⟩:=zap h3 hi
  have hv:u=.slice none 0 0:=hv
  refine ⟨q,us,h1,h2,zaq h3 fun v hv2=>?_,h4⟩
  have h5:v=.slice none 0 0:=by rw [hu] at hv2;injection hv2 with e;rw [← e,hv]
  show v=gv β g
  rw [h5];unfold gv;rw [hb]
 ·exact zlc hb hn
theorem qr {b id a i:Nat} {U:TypeId} {ls:List Lf} (ha:F.c a=pCkR K):Gh.sound K F ⟨id,[.bx b U ls],[.bx b U ls,.bx b U (ls.set i (.h a))],[]⟩:=by
 intro β st W hg hA
 have hB:=hA _ (List.mem_cons_self ..)
 refine ⟨β,hg,fun _ _=>Loc.same.rfl,fun _ h=>h,fun _ h=>.inl h,fun c hc=>(by cases hc),fun A hAm=>?_⟩
 simp only [List.mem_cons,List.not_mem_nil,or_false] at hAm
 rcases hAm with rfl | rfl
 ·exact hB
 ·obtain ⟨q,us,h1,h2,h3,h4,h5⟩:=hB
  refine ⟨q,us,h1,h2,zaq h3 fun v hv=>?_,h4,h5⟩
  show F.c a v W β.D
  rw [ha]
  exact List.all_eq_true.1 h4 v (List.mem_of_getElem? hv)
theorem zcj {α:Type} {c:α→List Pred} {z b g n k id i:Nat} {T U:TypeId} {l:List α} {ls:List Lf} (hF:Fine K F) (hi:ls[i]?=some (.gr g)) (hbg:b≠g) (hlf:lfs g (ls.set i (.h k))=false) (hz:∀x,(c x).length=z) (h0:0<z) (hc:∀x,FineAll K (c x)) (hn:F.g n=pG c l) (hk:F.c k=pLs c l):Gh.sound K F ⟨id,[.gl g T z n,.bx b U ls],[.bx b U (ls.set i (.h k)),.gn g],[g]⟩:=by
 intro β a W hg hA
 obtain ⟨cap,h2⟩:=zlb (K:=K) (T:=T) hz h0 hn (hA _ (List.mem_cons_self ..))
 obtain ⟨q,us,hq,hh,ho,hr⟩:=hA (.bx b U ls) (List.mem_cons_of_mem _ (List.mem_cons_self ..))
 let β':Loc:=⟨fun x=>if x=g then none else β x,β.len,fun q=>β.D q∨β g=some q⟩
 have hb:β' g=none:=if_pos rfl
 have hne:∀x,x≠g→β' x=β x:=fun x hx=>if_neg hx
 have hsub:∀x q,β' x=some q→x≠g∧β x=some q:=fun x q hq=>by
  by_cases hx:x=g
  ·subst hx;rw [hb] at hq;cases hq
  ·exact ⟨hx,by rw [← hne x hx];exact hq⟩
 refine ⟨β',⟨fun x q hq=>hg.lt x q (hsub x q hq).2,fun x y q hx hy=>hg.inj x y q (hsub x q hx).2 (hsub y q hy).2,hg.bel,fun x q hq hD=>?_,fun q hq=>?_,fun q hq=>.inl (hg.low q hq)⟩,fun x hx=>⟨hne x (by simpa using hx),rfl⟩,fun q hq=>.inl hq,fun q hq=>hq.imp (fun h=>h) fun h=>⟨g,by simp,h⟩,fun x hx q hq=>?_,fun A hAm=>?_⟩
 ·obtain ⟨h3,h4⟩:=hsub x q hq
  rcases hD with hD | hD
  ·exact hg.dis x q h4 hD
  ·exact h3 (hg.inj x g q h4 hD)
 ·rcases hq with hq | hq
  ·exact hg.dlt q hq
  ·exact hg.lt g q hq
 ·rw [List.mem_singleton] at hx
  subst hx
  rw [hb] at hq;cases hq
 ·rcases List.mem_cons.1 hAm with rfl | hAm
  case inr=>obtain rfl:=List.mem_singleton.1 hAm;exact hb
  refine ⟨q,us,(hne b hbg).trans hq,hh,?_,hr⟩
  obtain ⟨u,hu,hv⟩:=zap ho hi
  have hv:u=gv β g:=hv
  have h3:oks F β (ls.set i (.k u)) us.toList W:=zaq ho fun v hv2=>by rw [hu] at hv2;injection hv2 with e;exact e.symm
  have h4:oks F β' (ls.set i (.k u)) us.toList W:=zbe (K:=K) (β:=β) (β':=β') (S:=fun _=>False) hF (fun _ h=>h.elim) (Oth.refl _ W) (fun q hq=>.inl hq) (fun x hx=>⟨hne x (fun e=>by subst e;rw [zg7 (x:=.k u) (y:=.h k) rfl,hlf] at hx;cases hx),rfl⟩) h3
  have h5:=zaq (i:=i) (y:=.h k) h4 fun v hv2=>by
   have e:v=gv β g:=by rw [hu] at hv2;injection hv2 with e;rw [← e,hv]
   show F.c k v W β'.D
   rw [hk,e]
   rcases h2 with ⟨h2,_,rfl⟩ | ⟨r,cur,hbg,h2,hh,hle,hok⟩
   ·rw [h2];exact .inl ⟨⟨_,_,rfl⟩,rfl,rfl⟩
   ·rw [h2]
    refine .inr ⟨r,0,cap,T,cur,(0,0),rfl,.inr hbg,hh,?_,hle⟩
    show okl _ ((cur.toList.drop 0).take _) W β'.D
    rw [List.drop_zero,qC hz]
    exact zaz (S:=fun _=>False) (fun _ h=>h.elim) (Oth.refl _ W) (fun q hq=>.inl hq) (qa hc l) hok
  rw [List.set_set] at h5
  exact h5
theorem zP {α:Type} {c:α→List Pred} {z b g n k id i:Nat} {T U:TypeId} {l:List α} {ls:List Lf} (hF:Fine K F) (hi:ls[i]?=some (.gr g)) (hbg:b≠g) (hlf:lfs g (ls.set i (.h k))=false) (hz:∀x,(c x).length=z) (h0:0<z) (hc:∀x,FineAll K (c x)) (hn:F.g n=pG c l) (hk:F.c k=pLs c l):Gh.sound K F ⟨id,[.gl g T z n,.bx b U ls],[.bx b U (ls.set i (.h k))],[g]⟩:=by
 intro β a W hg hA
 obtain ⟨β',h1,h2,h3,h4,h5,h6⟩:=zcj (id:=id) hF hi hbg hlf hz h0 hc hn hk β a W hg hA
 exact ⟨β',h1,h2,h3,h4,h5,fun A hA=>h6 A (by rw [List.mem_singleton.1 hA];exact List.mem_cons_self ..)⟩
end
def zmj:Tr:=.s [(5,.un .neg 5),(8,.ia 35 26 3 1 0),(9,.fa 26 1 1 0 9),(10,.ld 3 0 10),(11,.bin .mul 3 8 11),(18,.ia 35 26 3 1 0),(19,.fa 26 0 0 0 13),(20,.ld 3 0 14),(21,.bin .mul 3 5 15)] (.z (.ret false (.o (.g [12,16,kI 0])) [.bx 900 106 [.p 902 0],.bx 901 35 [.h 1],.bx 902 141 [.h 2,.h 3,.h 4,.h 5,.h 6,.h 7]]))
theorem zqU {w0:World} (i:Int) (ways:List Vec) (c:Str) (r:Vec) (hr:zuf c.2.1 (ways.getD i.toNat (0,0,0))=r) (hi:0≤i∧i<(ways.length:Int)):BFun false (KN w0) Tryz.prog 114 [.o (.c (.d (pI i))),.o (.c (.p 0 0)),.o (.c (.p 1 0))] [(106,[.p 2 0]),(35,[.d (pLs cV ways)]),(141,[.d (pI c.1.1),.d (pI c.1.2.1),.d (pI c.1.2.2),.d (pI c.2.1),.d (pLs cV c.2.2.1),.d (pLs cI c.2.2.2)])] (.o (.g [.d (pI r.1),.d (pI r.2.1),.d (pI r.2.2)])) [(106,[.p 2 0]),(35,[.d (pLs cV ways)]),(141,[.d (pI c.1.1),.d (pI c.1.2.1),.d (pI c.1.2.2),.d (pI c.2.1),.d (pLs cV c.2.2.1),.d (pLs cI c.2.2.2)])]:=by
 obtain ⟨k,hk⟩:∃k:Nat,i=(k:Int):=⟨i.toNat,by omega⟩
 have hlt:k<ways.length:=by omega
 obtain ⟨x,hw⟩:∃x,ways[k]?=some x:=⟨_,List.getElem?_eq_getElem hlt⟩
 have hx:ways.getD i.toNat (0,0,0)=x:=by
  have e:i.toNat=k:=by omega
  rw [e,List.getD_eq_getElem?_getD,hw];rfl
 rw [hx] at hr
 refine tfn w0 114 ⟨[0,LF (.p 900 0),LF (.p 901 0)],[.bx 900 106 [.p 902 0],.bx 901 35 [.h 1],.bx 902 141 [.h 2,.h 3,.h 4,.h 5,.h 6,.h 7]],[],0,0⟩ ⟨8,[.ls 1 cI kIc c.2.2.2,.ls 3 cV kV c.2.2.1,sI c.2.1,sI c.1.2.2,sI c.1.2.1,sI c.1.1,.ls 3 cV kV ways,sI i],[],[]⟩ zmj (by kernel_rfl) ?_
 intro v1 e1
 refine ai (by exact ⟨k,_,hk,hw⟩) fun n2 x3 s4 s5=>?_
 intro v6 e6
 refine ai (by exact ⟨k,_,hk,hw⟩) fun n7 x8 s9 s10=>?_
 intro v11 e11
 intro hc
 have r0:r=(v6,v11,(0:Int)):=by
  (have q_x3:x3=x:=(by have hn:n2=k:=(by omega);rw [hn,hw] at s5;injection s5 with hh;exact hh.symm);have q_x8:x8=x:=(by have hn:n7=k:=(by omega);rw [hn,hw] at s10;injection s10 with hh;exact hh.symm);rw [← hr,← e11,← e6,← e1,q_x3,q_x8];rfl)
 rw [r0];exact con_b (pan:=false) (hc)
theorem ze6 {w0:World} (i:Int) (ways:List Vec) (fr:Vec) (left:Int) (pts:List Vec) (feeds:List Int) (r:Vec) (hr:zuf left (ways.getD i.toNat (0,0,0))=r) (hi:0≤i∧i<(ways.length:Int)):BFun false (KN w0) Tryz.prog 114 [.o (.c (.d (pI i))),.o (.c (.p 0 0)),.o (.c (.p 1 0))] [(106,[.p 2 0]),(35,[.d (pLs cV ways)]),(141,[.d (pI fr.1),.d (pI fr.2.1),.d (pI fr.2.2),.d (pI left),.d (pLs cV pts),.d (pLs cI feeds)])] (.o (.g [.d (pI r.1),.d (pI r.2.1),.d (pI r.2.2)])) [(106,[.p 2 0]),(35,[.d (pLs cV ways)]),(141,[.d (pI fr.1),.d (pI fr.2.1),.d (pI fr.2.2),.d (pI left),.d (pLs cV pts),.d (pLs cI feeds)])] :=
 zqU i ways (fr,left,pts,feeds) r hr hi
theorem zrp {at_ p:Vec} {l:List Vec} {k:Nat} (h:l[k]?=some p):waysL at_ (l.drop k)=headV at_ p::waysL p (l.drop (k+1)):=by
 obtain ⟨hk,rfl⟩:=List.getElem?_eq_some_iff.1 h
 rw [List.drop_eq_getElem_cons hk,waysL]
theorem zo:∀{at_:Vec} {l:List Vec},(waysL at_ l).length=l.length
 | _,[]=>rfl
 | _,p::r=>by rw [waysL,List.length_cons,List.length_cons,zo]
theorem zla {l:List Vec} {i:Int} {n:Nat} {x:Vec} (h:l[n]?=some x) (hi:i=(n:Int)):l.getD i.toNat (0,0,0)=x:=by
 subst hi
 rw [Int.toNat_natCast,List.getD_eq_getElem?_getD,h];rfl
theorem get_v {l:List Vec} {k:Nat} (h:k<l.length):l[k]?=some (l.getD k (0,0,0)):=by rw [List.getElem?_eq_getElem h,List.getD_eq_getElem?_getD,List.getElem?_eq_getElem h];rfl
theorem zeb {left:Int} {p w:Vec} {r ws:List Vec}:qF left (p::r) (w::ws)=(match ws.head? with
  | some u=>if u≠w then addV (addV p (zuf left w)) (zuf left u) else addV p (zuf left w)
  | none=>addV p (zuf left w))::qF left r ws:=by cases ws<;>rfl
theorem zf7 {left:Int} {ws:List Vec}:qF left [] ws=[]:=by cases ws<;>rfl
theorem ze4 {left:Int} {pts ws:List Vec} {p w:Vec} {k:Nat} (hp:pts[k]?=some p) (hw:ws[k]?=some w):qF left (pts.drop k) (ws.drop k)=(match ws[k+1]? with
  | some u=>if u≠w then addV (addV p (zuf left w)) (zuf left u) else addV p (zuf left w)
  | none=>addV p (zuf left w))::qF left (pts.drop (k+1)) (ws.drop (k+1)):=by
 obtain ⟨h1,rfl⟩:=List.getElem?_eq_some_iff.1 hp
 obtain ⟨h2,rfl⟩:=List.getElem?_eq_some_iff.1 hw
 rw [List.drop_eq_getElem_cons h1,List.drop_eq_getElem_cons h2,zeb,List.head?_drop]
theorem zf6 {left:Int}:∀{pts ws:List Vec},ws.length=pts.length→(qF left pts ws).length=pts.length
 | [],_,_=>by rw [zf7]
 | _::_,[],h=>by cases h
 | p::r,w::ws,h=>by
  rw [zeb,List.length_cons,List.length_cons,zf6 (by simpa using h)]
theorem zl {c:Str}:(zL c).length=c.2.2.1.length+1:=by
 unfold zL
 rw [List.length_cons,zf6 zo]
def zhe:List Atom:=[.sl 1 (.o (.c (.p 0 0))),.sl 2 (.o (.c (.k (.slice none 0 0)))),.sl 3 (.o (.c (.p 2 0))),.sl 4 (.o (.c (.p 7 0))),.sl 17 4,.sl 18 6,.sl 19 7,.bx 0 106 [.p 902 0],.bx 2 35 [.gr 901],.bx 7 26 [.h 8,.h 9,.h 10],.bx 902 141 [.h 0,.h 1,.h 2,.h 3,.h 4,.h 5],.gl 901 26 3 1]
def mvA_S:LoopS:=⟨3,zhe.map (tnA (jf (hZ 7 [kI 0,0,1,2])) (kf [0,0]) (kf [])),(.x 0),(drs [6,9] zhe)⟩
def mvA_t:Tr:=.s [(6000,.bin .lss 3 7 6)] (.b 11 (.s [(6001,.ia 35 26 3 4 7),(6002,.ld 26 3 12),(0,.gh ⟨4,[.bx 2 35 [.gr 901]],[.bx 2 35 [.gr 901],.bx 2 35 [.h 16]],[]⟩ 1),(6008,.call 84 [.o (.g [8,9,10]),.o (.g [13,14,15])] (.o (.g 3))),(0,.raw [(1006009,.dat 26 1 [.h 17,.h 18,.h 19] 20)] 1),(0,.raw [(1006010,.app 26 3 901 1 2 20 [] false)] 0),(6014,.bin .add 3 7 (kI 1))] (.z (.nx (hZ 7 [21,13,14,15]) [0,2] []))) (.z (.xt (.x 0) (hZ 7 []) [0,1] [])))
theorem zrS {w0:World} (c:Str) (v1:Int) (o2:(List Vec)) (hv:(c.2.2.1.length:Int)=v1) (hl:c.2.2.1.length≤1000) (hO:waysL c.1 c.2.2.1=o2):LpH (KN w0) Tryz.prog 83 ⟨ntOf Tryz.prog 83,[902],[]⟩ mvA_S 0 ⟨7,[sI v1,.ls 1 cI kIc c.2.2.2,.ls 3 cV kV c.2.2.1,sI c.2.1,sI c.1.2.2,sI c.1.2.1,sI c.1.1],[pG cV ([]:List Vec),pG cV o2],[]⟩:=by
 refine zi _ ⟨zhe,mvA_S,(11,2,0),(7,2,0),6000⟩ (T:=Int×Vec×(List Vec)) (fun t=>⟨11,[sI t.2.1.2.2,sI t.2.1.2.1,sI t.2.1.1,sI t.1,sI v1,.ls 1 cI kIc c.2.2.2,.ls 3 cV kV c.2.2.1,sI c.2.1,sI c.1.2.2,sI c.1.2.1,sI c.1.1],[pG cV ([]:List Vec),pG cV t.2.2],[]⟩) (fun (i,at_,o)=>∃k:Nat,i=(k:Int)∧k≤c.2.2.1.length∧o.length=k∧o++waysL at_ (c.2.2.1.drop k)=o2) (fun (i,at_,o)=>(v1 - i).toNat) ((0:Int),c.1,([]:List Vec)) (hZ 7 [kI 0,0,1,2]) [0,0] [] mvA_t mixed ⟨0,rfl,Nat.zero_le _,rfl,hO⟩ rfl rfl rfl rfl (fun _=>rfl) rfl rfl (by kernel_rfl) ?_
 rintro ⟨i,at_,o⟩ hJ
 dsimp only at hJ ⊢
 obtain ⟨k,hi,hk,hol,hs⟩:=hJ
 intro v501 e501
 refine ai (fun h502=>?_) fun h502=>?_
 ·
  refine ai (by (have dh502:=LD e501 h502;have hlt:k<c.2.2.1.length:=(by omega);exact ⟨k,_,hi,List.getElem?_eq_getElem hlt⟩)) fun n503 x504 s505 s506=>?_
  refine rx [.q (pCkR (KN w0))] [] [] (fun t u w _=>qr (i:=0) (ls:=[.gr 901]) rfl) ?_
  obtain ⟨v507,e507⟩:=LX (headV at_ x504)
  refine cx (.o (.g [sI v507.1,sI v507.2.1,sI v507.2.2])) (zgj at_ x504 v507 e507) rfl ?_
  obtain ⟨v508,e508⟩:=LX (([v507]:List Vec))
  refine rx [.ls 3 cV kV v508] [] [] (fun t u w=>⟨e_dat (c:=cV) (l:=([v507]:List Vec)) (ps:=(pI v507.1::pI v507.2.1::pI v507.2.2::[])) (qs:=(pI v507.1::pI v507.2.1::pI v507.2.2::[])) (by rw [e508];rfl) rfl rfl rfl (pimps (fun _ _ _ h=>h) <| pimps (fun _ _ _ h=>h) <| pimps (fun _ _ _ h=>h) <| ze) rfl,trivial⟩) ?_
  obtain ⟨v509,e509⟩:=LX (o++v508)
  have s510:(o.length+v508.length)*3≤1099511627776:=by (rw [← e508];simp only [List.length_singleton];have dh502:=LD e501 h502;omega)
  refine rx [] [pG cV v509] [] (fun t u w=>⟨zV (c:=cV) qy (fun _=>rfl) rfl (by rw [e509];rfl) rfl s510,trivial⟩) ?_
  intro v511 e511
  refine nxl (v511,x504,v509) ?_ ?_ rfl
  all_goals (have dh502:=LD e501 h502;have hkn:n503=k:=(by omega);subst hkn;have hlt:=(List.getElem?_eq_some_iff.1 s506).1;rw [zrp s506,e507] at hs;have x3:v511=((n503+1:Nat):Int):=(by rw [← e511,hi,wri (by omega)];omega);have x4:v509=o++[v507]:=(by rw [← e509,← e508]))
  ·show (v1 - v511).toNat<(v1 - i).toNat
   omega
  ·exact ⟨n503+1,x3,by omega,by rw [x4,List.length_append,hol];rfl,by rw [x4,List.append_assoc];exact hs⟩
 ·
  have hq:((o)=o2)∧True:=by
   refine ⟨?_,trivial⟩
   (have dh502:=LE e501 h502;have hkl:k=c.2.2.1.length:=(by omega);subst hkl;rw [List.drop_length,waysL,List.append_nil] at hs;exact hs)
  obtain ⟨q0,-⟩:=hq
  rw [← q0]
  rfl
def zhf:List Atom:=[.sl 2 (.o (.c (.gr 1024))),.sl 3 (.o (.c (.p 2 0))),.sl 7 (.o (.c (.q 114 [(0,0),(2,0)]))),.sl 43 4,.sl 44 14,.sl 45 15,.bx 0 106 [.p 902 0],.bx 2 35 [.h 7],.bx 902 141 [.h 0,.h 1,.h 2,.h 3,.h 4,.h 5],.gl 1024 26 3 3]
def mvB_S:LoopS:=⟨10,zhf.map (tnA (jf (hZ 15 [kI 0])) (kf [0,1,2,2]) (kf [])),(.x 2),(drs [5] zhf)⟩
def mvB_t:Tr:=.s [(8000,.bin .lss 3 15 14)] (.b 16 (.s [(8002,.ia 35 26 3 4 15),(8003,.ld 26 3 17),(0,.raw [(1008010,.call ⟨114,[15,.o (.c (.p 0 0)),.o (.c (.p 2 0))],[.bx 0 106 [.p 902 0],.bx 2 35 [.h 7],.bx 902 141 [.h 0,.h 1,.h 2,.h 3,.h 4,.h 5]],.o (.g [21,22,23]),[.bx 0 106 [.p 902 0],.bx 2 35 [.h 7],.bx 902 141 [.h 0,.h 1,.h 2,.h 3,.h 4,.h 5]]⟩)] 3),(8011,.call 20 [.o (.g [18,19,20]),.o (.g [21,22,23])] (.o (.g 3))),(8014,.bin .add 3 15 (kI 1)),(8016,.ln 35 3 7),(8017,.bin .lss 3 27 28)] (.b 29 (.s [(8021,.bin .add 3 15 (kI 1)),(8022,.ia 35 26 3 7 30),(8023,.ld 26 3 31),(8026,.ia 35 26 3 7 15),(8027,.ld 26 3 35),(0,.raw [(1008028,.bin .neq 26 (.o (.g [32,33,34])) (.o (.g [36,37,38])) 39)] 1)] (.b 39 (.s [(8033,.bin .add 3 15 (kI 1)),(0,.raw [(1008034,.call ⟨114,[40,.o (.c (.p 0 0)),.o (.c (.p 2 0))],[.bx 0 106 [.p 902 0],.bx 2 35 [.h 7],.bx 902 141 [.h 0,.h 1,.h 2,.h 3,.h 4,.h 5]],.o (.g [41,42,43]),[.bx 0 106 [.p 902 0],.bx 2 35 [.h 7],.bx 902 141 [.h 0,.h 1,.h 2,.h 3,.h 4,.h 5]]⟩)] 3),(8035,.call 20 [.o (.g [24,25,26]),.o (.g [41,42,43])] (.o (.g 3))),(0,.raw [(1008039,.dat 26 1 [.h 44,.h 45,.h 46] 47)] 1),(0,.raw [(1008040,.app 26 3 1024 3 4 47 [] false)] 0),(8042,.bin .add 3 15 (kI 1))] (.z (.nx (hZ 15 [48]) [0,1,2,4] []))) (.s [(0,.raw [(1008032,.dat 26 1 [.h 24,.h 25,.h 26] 40)] 1),(0,.raw [(1008033,.app 26 3 1024 3 4 40 [] false)] 0),(8035,.bin .add 3 15 (kI 1))] (.z (.nx (hZ 15 [41]) [0,1,2,4] []))))) (.s [(0,.raw [(1008032,.dat 26 1 [.h 24,.h 25,.h 26] 30)] 1),(0,.raw [(1008033,.app 26 3 1024 3 4 30 [] false)] 0),(8035,.bin .add 3 15 (kI 1))] (.z (.nx (hZ 15 [31]) [0,1,2,4] []))))) (.z (.xt (.x 2) (hZ 15 []) [0,1,2,3] [])))
theorem zrT {w0:World} (c:Str) (v1:Int) (o2:(List Vec)) (v2:Vec) (v4:Vec) (v5:Int) (o3:(List Vec)) (hv:(c.2.2.1.length:Int)=v5) (hl:c.2.2.1.length≤1000) (hw:o2.length=c.2.2.1.length) (hO:(([v4]:List Vec))++qF c.2.1 c.2.2.1 o2=o3):LpH (KN w0) Tryz.prog 83 ⟨ntOf Tryz.prog 83,[902],[]⟩ mvB_S 1 ⟨15,[sI v5,sI v4.2.2,sI v4.2.1,sI v4.1,sI v2.2.2,sI v2.2.1,sI v2.1,.ls 3 cV kV o2,sI v1,.ls 1 cI kIc c.2.2.2,.ls 3 cV kV c.2.2.1,sI c.2.1,sI c.1.2.2,sI c.1.2.1,sI c.1.1],[pG cV ([]:List Vec),pG cV o2,pG cV ([v4]:List Vec),pG cV o3],[]⟩:=by
 refine zi _ ⟨zhf,mvB_S,(16,4,0),(15,4,0),8000⟩ (T:=Int×(List Vec)) (fun t=>⟨16,[sI t.1,sI v5,sI v4.2.2,sI v4.2.1,sI v4.1,sI v2.2.2,sI v2.2.1,sI v2.1,.ls 3 cV kV o2,sI v1,.ls 1 cI kIc c.2.2.2,.ls 3 cV kV c.2.2.1,sI c.2.1,sI c.1.2.2,sI c.1.2.1,sI c.1.1],[pG cV ([]:List Vec),pG cV o2,pG cV ([v4]:List Vec),pG cV t.2],[]⟩) (fun (i,o)=>∃k:Nat,i=(k:Int)∧k≤c.2.2.1.length∧o.length=k+1∧o++qF c.2.1 (c.2.2.1.drop k) (o2.drop k)=o3) (fun (i,o)=>(v5 - i).toNat) ((0:Int),([v4]:List Vec)) (hZ 15 [kI 0]) [0,1,2,2] [] mvB_t mixed ⟨0,rfl,Nat.zero_le _,rfl,hO⟩ rfl rfl rfl rfl (fun _=>rfl) rfl rfl (by kernel_rfl) ?_
 rintro ⟨i,o⟩ hJ
 dsimp only at hJ ⊢
 obtain ⟨k,hi,hk,hol,hs⟩:=hJ
 intro v501 e501
 refine ai (fun h502=>?_) fun h502=>?_
 ·
  refine ai (by (have dh502:=LD e501 h502;have hlt:k<c.2.2.1.length:=(by omega);exact ⟨k,_,hi,List.getElem?_eq_getElem hlt⟩)) fun n503 x504 s505 s506=>?_
  obtain ⟨v507,e507⟩:=LX (zuf c.2.1 (o2.getD (i).toNat (0,0,0)))
  have s508:0≤i∧i<(o2.length:Int):=by (have dh502:=LD e501 h502;omega)
  refine rx [sI v507.1,sI v507.2.1,sI v507.2.2] [] [] (fun t u w=>⟨b_con (pan:=false) (ze6 i o2 c.1 c.2.1 c.2.2.1 c.2.2.2 v507 e507 s508),trivial⟩) ?_
  obtain ⟨v509,e509⟩:=LX (addV x504 v507)
  refine cx (.o (.g [sI v509.1,sI v509.2.1,sI v509.2.2])) (t_add x504 v507 v509 e509) rfl ?_
  intro v510 e510 v511 e511 v512 e512
  refine ai (fun h513=>?_) fun h513=>?_
  ·
   intro v514 e514
   refine ai (by (have dh502:=LD e501 h502;have dh513:=LD e512 h513;have hz:=e511;have hw:v514=((k+1:Nat):Int):=(by rw [← e514,hi,wri (by omega)];omega);have hw2:v510=((k+1:Nat):Int):=(by rw [← e510,hi,wri (by omega)];omega);have hlt:k+1<o2.length:=(by omega);exact ⟨k+1,_,hw,get_v hlt⟩)) fun n515 x516 s517 s518=>?_
   refine ai (by (have dh502:=LD e501 h502;have dh513:=LD e512 h513;have hlt:k<o2.length:=(by omega);exact ⟨k,_,hi,get_v hlt⟩)) fun n519 x520 s521 s522=>?_
   obtain ⟨v523,e523⟩:=LX (!decide (x516=x520))
   refine rx [sB v523] [] [] (fun t u w=>⟨e_eqV (x:=x516) (y:=x520) (neg:=true) ⟨(za rfl),(za rfl),(za rfl),trivial⟩ ⟨(za rfl),(za rfl),(za rfl),trivial⟩ (za (by rw [e523];rfl)),trivial⟩) ?_
   refine ai (fun h524=>?_) fun h524=>?_
   ·
    intro v525 e525
    obtain ⟨v526,e526⟩:=LX (zuf c.2.1 (o2.getD (v525).toNat (0,0,0)))
    have s527:0≤v525∧v525<(o2.length:Int):=by (have dh502:=LD e501 h502;have dh513:=LD e512 h513;have dh524:=(Bool.not_eq_true' _).mp (e523.trans h524);have hz:=e511;have hw:v525=((k+1:Nat):Int):=(by rw [← e525,hi,wri (by omega)];omega);have hw2:v510=((k+1:Nat):Int):=(by rw [← e510,hi,wri (by omega)];omega);omega)
    refine rx [sI v526.1,sI v526.2.1,sI v526.2.2] [] [] (fun t u w=>⟨b_con (pan:=false) (ze6 v525 o2 c.1 c.2.1 c.2.2.1 c.2.2.2 v526 e526 s527),trivial⟩) ?_
    obtain ⟨v528,e528⟩:=LX (addV v509 v526)
    refine cx (.o (.g [sI v528.1,sI v528.2.1,sI v528.2.2])) (t_add v509 v526 v528 e528) rfl ?_
    obtain ⟨v529,e529⟩:=LX (([v528]:List Vec))
    refine rx [.ls 3 cV kV v529] [] [] (fun t u w=>⟨e_dat (c:=cV) (l:=([v528]:List Vec)) (ps:=(pI v528.1::pI v528.2.1::pI v528.2.2::[])) (qs:=(pI v528.1::pI v528.2.1::pI v528.2.2::[])) (by rw [e529];rfl) rfl rfl rfl (pimps (fun _ _ _ h=>h) <| pimps (fun _ _ _ h=>h) <| pimps (fun _ _ _ h=>h) <| ze) rfl,trivial⟩) ?_
    obtain ⟨v530,e530⟩:=LX (o++v529)
    have s531:(o.length+v529.length)*3≤1099511627776:=by (rw [← e529];simp only [List.length_singleton];have dh502:=LD e501 h502;have dh513:=LD e512 h513;have dh524:=(Bool.not_eq_true' _).mp (e523.trans h524);omega)
    refine rx [] [pG cV v530] [] (fun t u w=>⟨zV (c:=cV) qy (fun _=>rfl) rfl (by rw [e530];rfl) rfl s531,trivial⟩) ?_
    intro v532 e532
    refine nxl (v532,v530) ?_ ?_ rfl
    all_goals (have dh502:=LD e501 h502;have dh513:=LD e512 h513;have dh524:=(Bool.not_eq_true' _).mp (e523.trans h524);have hkn:n503=k:=(by omega);subst hkn;have hlt:=(List.getElem?_eq_some_iff.1 s506).1;have hia:v510=((n503+1:Nat):Int):=(by rw [← e510,hi,wri (by omega)];omega);have hz:=e511;have n1:n519=n503:=(by omega);have hvu:v514=((n503+1:Nat):Int):=(by rw [← e514,hi,wri (by omega)];omega);have n2:n515=n503+1:=(by omega);have gA:o2.getD (i).toNat (0,0,0)=x520:=zla s522 s521;rw [n1] at s522;rw [n2] at s518;rw [ze4 s506 s522,s518] at hs;dsimp only at hs;rw [if_pos (by simpa using dh524)] at hs;have gB:o2.getD (v525).toNat (0,0,0)=x516:=zla s518 (by rw [← e525,hi,wri (by omega)];omega);have hnv:v528=addV (addV x504 (zuf c.2.1 x520)) (zuf c.2.1 x516):=(by rw [← e528,← e509,← e526,← e507,gA,gB]);rw [← hnv] at hs;have x3:v532=((n503+1:Nat):Int):=(by rw [← e532,hi,wri (by omega)];omega);have x4:v530=o++[v528]:=(by rw [← e530,← e529]))
    ·show (v5 - v532).toNat<(v5 - i).toNat
     omega
    ·exact ⟨n503+1,x3,by omega,by rw [x4,List.length_append,hol];rfl,by rw [x4,List.append_assoc];exact hs⟩
   ·
    obtain ⟨v525,e525⟩:=LX (([v509]:List Vec))
    refine rx [.ls 3 cV kV v525] [] [] (fun t u w=>⟨e_dat (c:=cV) (l:=([v509]:List Vec)) (ps:=(pI v509.1::pI v509.2.1::pI v509.2.2::[])) (qs:=(pI v509.1::pI v509.2.1::pI v509.2.2::[])) (by rw [e525];rfl) rfl rfl rfl (pimps (fun _ _ _ h=>h) <| pimps (fun _ _ _ h=>h) <| pimps (fun _ _ _ h=>h) <| ze) rfl,trivial⟩) ?_
    obtain ⟨v526,e526⟩:=LX (o++v525)
    have s527:(o.length+v525.length)*3≤1099511627776:=by (rw [← e525];simp only [List.length_singleton];have dh502:=LD e501 h502;have dh513:=LD e512 h513;have dh524:=(Bool.not_eq_false' _).mp (e523.trans h524);omega)
    refine rx [] [pG cV v526] [] (fun t u w=>⟨zV (c:=cV) qy (fun _=>rfl) rfl (by rw [e526];rfl) rfl s527,trivial⟩) ?_
    intro v528 e528
    refine nxl (v528,v526) ?_ ?_ rfl
    all_goals (have dh502:=LD e501 h502;have dh513:=LD e512 h513;have dh524:=(Bool.not_eq_false' _).mp (e523.trans h524);have hkn:n503=k:=(by omega);subst hkn;have hlt:=(List.getElem?_eq_some_iff.1 s506).1;have hia:v510=((n503+1:Nat):Int):=(by rw [← e510,hi,wri (by omega)];omega);have hz:=e511;have n1:n519=n503:=(by omega);have hvu:v514=((n503+1:Nat):Int):=(by rw [← e514,hi,wri (by omega)];omega);have n2:n515=n503+1:=(by omega);have gA:o2.getD (i).toNat (0,0,0)=x520:=zla s522 s521;rw [n1] at s522;rw [n2] at s518;rw [ze4 s506 s522,s518] at hs;dsimp only at hs;rw [if_neg (by simpa using dh524)] at hs;have hnv:v509=addV x504 (zuf c.2.1 x520):=(by rw [← e509,← e507,gA]);rw [← hnv] at hs;have x3:v528=((n503+1:Nat):Int):=(by rw [← e528,hi,wri (by omega)];omega);have x4:v526=o++[v509]:=(by rw [← e526,← e525]))
    ·show (v5 - v528).toNat<(v5 - i).toNat
     omega
    ·exact ⟨n503+1,x3,by omega,by rw [x4,List.length_append,hol];rfl,by rw [x4,List.append_assoc];exact hs⟩
  ·
   obtain ⟨v514,e514⟩:=LX (([v509]:List Vec))
   refine rx [.ls 3 cV kV v514] [] [] (fun t u w=>⟨e_dat (c:=cV) (l:=([v509]:List Vec)) (ps:=(pI v509.1::pI v509.2.1::pI v509.2.2::[])) (qs:=(pI v509.1::pI v509.2.1::pI v509.2.2::[])) (by rw [e514];rfl) rfl rfl rfl (pimps (fun _ _ _ h=>h) <| pimps (fun _ _ _ h=>h) <| pimps (fun _ _ _ h=>h) <| ze) rfl,trivial⟩) ?_
   obtain ⟨v515,e515⟩:=LX (o++v514)
   have s516:(o.length+v514.length)*3≤1099511627776:=by (rw [← e514];simp only [List.length_singleton];have dh502:=LD e501 h502;have dh513:=LE e512 h513;omega)
   refine rx [] [pG cV v515] [] (fun t u w=>⟨zV (c:=cV) qy (fun _=>rfl) rfl (by rw [e515];rfl) rfl s516,trivial⟩) ?_
   intro v517 e517
   refine nxl (v517,v515) ?_ ?_ rfl
   all_goals (have dh502:=LD e501 h502;have dh513:=LE e512 h513;have hkn:n503=k:=(by omega);subst hkn;have hlt:=(List.getElem?_eq_some_iff.1 s506).1;have hia:v510=((n503+1:Nat):Int):=(by rw [← e510,hi,wri (by omega)];omega);have hz:=e511;have hu:o2[n503+1]?=none:=List.getElem?_eq_none (by omega);have hlw:n503<o2.length:=(by omega);have gA:o2.getD (i).toNat (0,0,0)=o2.getD n503 (0,0,0):=(by rw [hi];rfl);rw [ze4 s506 (get_v hlw),hu] at hs;dsimp only at hs;have hnv:v509=addV x504 (zuf c.2.1 (o2.getD n503 (0,0,0))):=(by rw [← e509,← e507,gA]);rw [← hnv] at hs;have x3:v517=((n503+1:Nat):Int):=(by rw [← e517,hi,wri (by omega)];omega);have x4:v515=o++[v509]:=(by rw [← e515,← e514]))
   ·show (v5 - v517).toNat<(v5 - i).toNat
    omega
   ·exact ⟨n503+1,x3,by omega,by rw [x4,List.length_append,hol];rfl,by rw [x4,List.append_assoc];exact hs⟩
 ·
  have hq:((o)=o3)∧True:=by
   refine ⟨?_,trivial⟩
   (have dh502:=LE e501 h502;have hkl:k=c.2.2.1.length:=(by omega);subst hkl;rw [List.drop_length,zf7,List.append_nil] at hs;exact hs)
  obtain ⟨q0,-⟩:=hq
  rw [← q0]
  rfl
def zmt:Tr:=.s [(0,.gh ⟨1,[.bx 2 35 [.k (.slice none 0 0)],.gn 901],[.bx 2 35 [.gr 901],.gl 901 26 3 0],[]⟩ 0),(13,.ln 35 3 4),(0,.lp mvA_S 0 0),(0,.gh ⟨7,[.gl 901 26 3 1,.bx 2 35 [.gr 901]],[.bx 2 35 [.h 7]],[901]⟩ 1),(0,.raw [(1001022,.call ⟨114,[.o (.c (.k (.int .i64 0))),.o (.c (.p 0 0)),.o (.c (.p 2 0))],[.bx 0 106 [.p 902 0],.bx 2 35 [.h 7],.bx 902 141 [.h 0,.h 1,.h 2,.h 3,.h 4,.h 5]],.o (.g [8,9,10]),[.bx 0 106 [.p 902 0],.bx 2 35 [.h 7],.bx 902 141 [.h 0,.h 1,.h 2,.h 3,.h 4,.h 5]]⟩)] 3),(1023,.call 20 [.o (.g [0,1,2]),.o (.g [8,9,10])] (.o (.g 3))),(0,.raw [(1001024,.glt 26 3 [.h 11,.h 12,.h 13] 2)] 0),(1030,.ln 35 3 4),(0,.lp mvB_S 1 0),(0,.gh ⟨17,.gl 1024 26 3 3::[2,83].map (fun s=>.sl s (.o (.c (.gr 1024)))),[2,83].map (fun s=>.sl s 15),[1024]⟩ 1)] (.z (.ret false (.t [15,7]) [.bx 902 141 [.h 0,.h 1,.h 2,.h 3,.h 4,.h 5]]))
theorem zq5 {w0:World} (c:Str) (r1 r2:List Vec) (hr1:zL c=r1) (hr2:waysL c.1 c.2.2.1=r2) (hne:c.2.2.1≠[]) (hl:c.2.2.1.length≤1000):BFun false (KN w0) Tryz.prog 83 [.o (.c (.p 0 0))] [(141,[.d (pI c.1.1),.d (pI c.1.2.1),.d (pI c.1.2.2),.d (pI c.2.1),.d (pLs cV c.2.2.1),.d (pLs cI c.2.2.2)])] (.t [.c (.d (pLs cV r1)),.c (.d (pLs cV r2))]) [(141,[.d (pI c.1.1),.d (pI c.1.2.1),.d (pI c.1.2.2),.d (pI c.2.1),.d (pLs cV c.2.2.1),.d (pLs cI c.2.2.2)])]:=by
 refine tfn w0 83 ⟨[LF (.p 902 0)],[.bx 902 141 [.h 0,.h 1,.h 2,.h 3,.h 4,.h 5]],[901],0,0⟩ ⟨6,[.ls 1 cI kIc c.2.2.2,.ls 3 cV kV c.2.2.1,sI c.2.1,sI c.1.2.2,sI c.1.2.1,sI c.1.1],[],[]⟩ zmt (by kernel_rfl) ?_
 refine rx [] [pG cV ([]:List Vec)] [] (fun t u w _=>zG (c:=cV) (i:=0) (ls:=[.k (.slice none 0 0)]) rfl rfl) ?_
 intro v1 e1
 obtain ⟨o2,hO_mvA⟩:∃(o2:(List Vec)),waysL c.1 c.2.2.1=o2:=⟨_,rfl⟩
 refine rx [] [pG cV o2] [] (zrS c v1  o2  e1 hl hO_mvA) ?_
 refine rx [.ls 3 cV kV o2] [] [] (fun t u w hF=>zP (c:=cV) (i:=0) (ls:=[.gr 901]) hF rfl (by decide) rfl (fun _=>rfl) (by decide) qy rfl rfl) ?_
 obtain ⟨v2,e2⟩:=LX (zuf c.2.1 (o2.getD ((0:Int)).toNat (0,0,0)))
 have s3:0≤(0:Int)∧(0:Int)<(o2.length:Int):=by (have hw:=zo (at_:=c.1) (l:=c.2.2.1);rw [hO_mvA] at hw;have h1:=List.length_pos_iff.2 hne;omega)
 refine rx [sI v2.1,sI v2.2.1,sI v2.2.2] [] [] (fun t u w=>⟨b_con (pan:=false) (ze6 (0:Int) o2 c.1 c.2.1 c.2.2.1 c.2.2.2 v2 e2 s3),trivial⟩) ?_
 obtain ⟨v4,e4⟩:=LX (addV c.1 v2)
 refine cx (.o (.g [sI v4.1,sI v4.2.1,sI v4.2.2])) (t_add c.1 v2 v4 e4) rfl ?_
 refine rx [] [pG cV ([v4]:List Vec)] [] (fun t u w=>⟨e_glt (c:=cV) (l:=([v4]:List Vec)) rfl rfl (fun _ _ _ h=>h) rfl qy (by decide),trivial⟩) ?_
 intro v5 e5
 have hwl:o2.length=c.2.2.1.length:=by rw [← hO_mvA];exact zo
 obtain ⟨o3,hO_mvB⟩:∃(o3:(List Vec)),(([v4]:List Vec))++qF c.2.1 c.2.2.1 o2=o3:=⟨_,rfl⟩
 refine rx [] [pG cV o3] [] (zrT c v1 o2 v2 v4 v5  o3  e5 hl hwl hO_mvB) ?_
 refine rx [.ls 3 cV kV o3] [] [] (fun t u w _=>qS (c:=cV) (fun _=>rfl) (by decide) qy rfl rfl) ?_
 intro hc
 have r0:r1=o3:=by
  (have hwl:o2.length=c.2.2.1.length:=(by rw [← hO_mvA];exact zo);first | exact hr2.symm.trans hO_mvA | (rw [← hr1,← hO_mvB,← e4,← e2,← hO_mvA];unfold zL;cases waysL c.1 c.2.2.1<;>rfl))
 have r1:r2=o2:=by
  (have hwl:o2.length=c.2.2.1.length:=(by rw [← hO_mvA];exact zo);first | exact hr2.symm.trans hO_mvA | (rw [← hr1,← hO_mvB,← e4,← e2,← hO_mvA];unfold zL;cases waysL c.1 c.2.2.1<;>rfl))
 rw [r0,r1];exact con_b (pan:=false) (hc)
theorem zgG {l:List Vec} {k:Nat} {a b:Vec} (ha:l[k]?=some a) (hb:l[k+1]?=some b):backL (l.drop k)=(decide (addV a b=(0,0,0)) || backL (l.drop (k+1))):=by
 obtain ⟨h1,rfl⟩:=List.getElem?_eq_some_iff.1 ha
 obtain ⟨h2,rfl⟩:=List.getElem?_eq_some_iff.1 hb
 rw [List.drop_eq_getElem_cons h1,List.drop_eq_getElem_cons h2,backL]
theorem znh {l:List Vec} {k:Nat} (h:l.length≤k+1):backL (l.drop k)=false:=by
 have:(l.drop k).length≤1:=by rw [List.length_drop];omega
 match hd:l.drop k,this with
 | [],_=>rfl
 | [_],_=>rfl
theorem zmJ {p q w:Vec} {r ws:List Vec}:turnL (p::q::r) (w::ws)=(!decide (headV p q=w) || turnL (q::r) ws):=rfl
theorem zh6 {l ws:List Vec} {k:Nat} {a b x:Vec} (ha:l[k]?=some a) (hb:l[k+1]?=some b) (hx:ws[k]?=some x):turnL (l.drop k) (ws.drop k)=(!decide (headV a b=x) || turnL (l.drop (k+1)) (ws.drop (k+1))):=by
 obtain ⟨h1,rfl⟩:=List.getElem?_eq_some_iff.1 ha
 obtain ⟨h2,rfl⟩:=List.getElem?_eq_some_iff.1 hb
 obtain ⟨h3,rfl⟩:=List.getElem?_eq_some_iff.1 hx
 rw [List.drop_eq_getElem_cons h1,List.drop_eq_getElem_cons h2,List.drop_eq_getElem_cons h3,zmJ]
theorem zoI {l:List Vec}:turnL l []=false:=by
 match l with
 | []=>rfl
 | [_]=>rfl
 | _::_::_=>rfl
theorem zkr {l:List Vec} {k:Nat} {a:Vec} (ha:l[k]?=some a):(l.drop k).all inV=(inV a && (l.drop (k+1)).all inV):=by
 obtain ⟨h1,rfl⟩:=List.getElem?_eq_some_iff.1 ha
 rw [List.drop_eq_getElem_cons h1,List.all_cons]
theorem zen {f:List Int} {l:List Vec} {k:Nat} {a:Vec} {s:Rn} (ha:l[k]?=some a):addsL f k (l.drop k) s=(match addS (2,(0,0,0),a,(0,0,0),f.getD (k - 1) 0) s with
  | .ok t=>addsL f (k+1) (l.drop (k+1)) t
  | .error e=>.error e):=by
 obtain ⟨h1,rfl⟩:=List.getElem?_eq_some_iff.1 ha
 rw [List.drop_eq_getElem_cons h1,addsL]
 rfl
theorem zcI {l:List Int} {n k:Nat} {x:Int} (h:l[n]?=some x) (hk:n=k):l.getD k 0=x:=by
 subst hk
 rw [List.getD_eq_getElem?_getD,h];rfl
theorem zbK {f:List Int}:∀{l:List Vec} {k:Nat} {s s':Rn},s.2.2.2=none→addsL f k l s=.ok s'→s'.2.2.2=none
 | [],_,_,_,hs,h=>by rw [addsL] at h;injection h with h;rw [← h];exact hs
 | p::r,k,s,s',hs,h=>by
  rw [addsL] at h
  split at h
  ·rename_i t ht
   exact zbK ((qd ht).trans hs) h
  ·cases h
def zeJ:List Atom:=[.sl 0 (.o (.c (.p 900 0))),.sl 2 (.o (.c (.p 902 0))),.sl 3 13,.sl 4 14,.sl 5 15,.bx 900 108 [.h 0,.h 1,.h 2,.h 3,.gr 901,.h 4,.k (.pointer none)],.bx 902 141 [.h 5,.h 6,.h 7,.h 8,.h 11,.h 12],.gl 901 45 11 0]
def ziW:LoopS:=⟨5,zeJ.map (tnA (jf (hZ 15 [kI 1])) (kf [0,1,2]) (kf [])),(.x 0),(drs [4] zeJ)⟩
def zrW:Tr:=.s [(0,.fb 10 false),(6002,.ln 35 3 14),(6003,.bin .lss 3 15 16)] (.b 17 (.s [(6006,.bin .sub 3 15 (kI 1)),(6007,.ia 35 26 3 14 18),(6008,.ld 26 3 19),(6011,.ia 35 26 3 14 15),(6012,.ld 26 3 23),(6013,.call 20 [.o (.g [20,21,22]),.o (.g [24,25,26])] (.o (.g 3))),(0,.raw [(1006015,.bin .eql 26 (.o (.g [27,28,29])) (.o (.g [.k (.int .i64 0),.k (.int .i64 0),.k (.int .i64 0)])) 30)] 1)] (.b 30 (.s [(0,.raw [(1006016,.pan ⟨55,[30,.o (.c (.k (.int .i64 17)))],[],31,[]⟩)] 1)] (.z .no)) (.s [(6016,.call 55 [30,LF (kI 17)] (.t [])),(6018,.bin .add 3 15 (kI 1))] (.z (.nx (hZ 15 [31]) [0,1,2] []))))) (.z (.xt (.x 0) (hZ 15 []) [0,1,2] [])))
theorem zlz {w0:World} (su:(List (List UInt8×Sb))) (pt:Vec) (mv:(List Mov)) (dn:Int) (c:Str) (v1:Int) (v2:Bool) (v4:(List Vec)) (v5:(List Vec)) (h3:v2=false) (hl:1≤v5.length) (hl2:v5.length≤1000) (hO:backL (v5)=false):LpH (KN w0) Tryz.prog 57 ⟨ntOf Tryz.prog 57,[900,901,902,903,904],[901,903,904]⟩ ziW 0 ⟨15,[.ls 3 cV kV v5,.ls 3 cV kV v4,.ls 1 cI kIc c.2.2.2,.ls 3 cV kV c.2.2.1,sB v2,sI v1,sI c.2.1,sI c.1.2.2,sI c.1.2.1,sI c.1.1,sI dn,sI pt.2.2,sI pt.2.1,sI pt.1,.q (pSu su)],[pG cM mv,pG cV c.2.2.1,pG cI c.2.2.2],[]⟩:=by
 refine zi _ ⟨zeJ,ziW,(16,3,0),(15,3,0),6000⟩ (T:=Int) (fun t=>⟨16,[sI t,.ls 3 cV kV v5,.ls 3 cV kV v4,.ls 1 cI kIc c.2.2.2,.ls 3 cV kV c.2.2.1,sB v2,sI v1,sI c.2.1,sI c.1.2.2,sI c.1.2.1,sI c.1.1,sI dn,sI pt.2.2,sI pt.2.1,sI pt.1,.q (pSu su)],[pG cM mv,pG cV c.2.2.1,pG cI c.2.2.2],[]⟩) (fun i=>∃k:Nat,i=((k+1:Nat):Int)∧k+1≤v5.length∧backL (v5.drop k)=false) (fun i=>((v5.length:Int) - i).toNat) (1:Int) (hZ 15 [kI 1]) [0,1,2] [] zrW mixed ⟨0,rfl,by omega,hO⟩ rfl rfl rfl rfl (fun _=>rfl) rfl rfl (by kernel_rfl) ?_
 intro i hJ
 obtain ⟨k,hi,hk,hs⟩:=hJ
 refine ai h3 ?_
 intro v501 e501 v502 e502
 refine ai (fun h503=>?_) fun h503=>?_
 ·
  intro v504 e504
  refine ai (by (have dh503:=LD e502 h503;have hz:=e501;have hw:v504=((k:Nat):Int):=(by rw [← e504,wri (by omega)];omega);have hlt:k<v5.length:=(by omega);exact ⟨k,_,hw,List.getElem?_eq_getElem hlt⟩)) fun n505 x506 s507 s508=>?_
  refine ai (by (have dh503:=LD e502 h503;have hz:=e501;have hlt:k+1<v5.length:=(by omega);exact ⟨k+1,_,by omega,List.getElem?_eq_getElem hlt⟩)) fun n509 x510 s511 s512=>?_
  obtain ⟨v513,e513⟩:=LX (addV x506 x510)
  refine cx (.o (.g [sI v513.1,sI v513.2.1,sI v513.2.2])) (t_add x506 x510 v513 e513) rfl ?_
  obtain ⟨v514,e514⟩:=LX (decide (v513=((0:Int),(0:Int),(0:Int))))
  refine rx [sB v514] [] [] (fun t u w=>⟨e_eqV (x:=v513) (y:=((0:Int),(0:Int),(0:Int))) (neg:=false) ⟨(za rfl),(za rfl),(za rfl),trivial⟩ ⟨zf,zf,zf,trivial⟩ (za (by rw [e514];rfl)),trivial⟩) ?_
  refine ai (fun h515=>?_) fun h515=>?_
  ·
   have s516:(v514 && ((17:Int) != 0))=true:=by (rw [h515];rfl)
   refine rx [.v (.iface 37 (.int .i64 (17:Int)))] [] [] (fun t u w=>⟨b_con (pan:=true) (zh v514 (17:Int) (17:Int) rfl s516),trivial⟩) ?_
   exfalso
   (have dh503:=LD e502 h503;have dh515:=LD e514 h515;have hz:=e501;have qn505:n505=k:=(by have hw:v504=((k:Nat):Int):=(by rw [← e504,wri (by omega)];omega);omega);have qn509:n509=k+1:=(by omega);rw [qn505] at s508;rw [qn509] at s512;have hd:decide (addV x506 x510=(0,0,0))=true:=(by rw [e513];exact e514.trans h515);rw [zgG s508 s512,hd] at hs;rw [Bool.true_or] at hs;cases hs)
  ·
   have s516:(v514 && ((17:Int) != 0))=false:=by (rw [h515];rfl)
   refine cx (.t []) (zv v514 (17:Int) s516) rfl ?_
   intro v517 e517
   refine nxl v517 ?_ ?_ rfl
   all_goals (have dh503:=LD e502 h503;have dh515:=LE e514 h515;have hz:=e501;have qn505:n505=k:=(by have hw:v504=((k:Nat):Int):=(by rw [← e504,wri (by omega)];omega);omega);have qn509:n509=k+1:=(by omega);rw [qn505] at s508;rw [qn509] at s512;have hd:decide (addV x506 x510=(0,0,0))=false:=(by rw [e513];exact e514.trans h515);rw [zgG s508 s512,hd] at hs;rw [Bool.false_or] at hs;have x3:v517=((k+1+1:Nat):Int):=(by rw [← e517,hi,wri (by omega)];omega))
   ·show (((v5.length:Int) - v517).toNat)<((v5.length:Int) - i).toNat
    omega
   ·exact ⟨k+1,x3,by omega,hs⟩
 ·
  rfl
def zeK:List Atom:=[.sl 0 (.o (.c (.p 900 0))),.sl 2 (.o (.c (.p 902 0))),.sl 3 13,.sl 4 14,.sl 5 15,.bx 900 108 [.h 0,.h 1,.h 2,.h 3,.gr 901,.h 4,.k (.pointer none)],.bx 902 141 [.h 5,.h 6,.h 7,.h 8,.h 11,.h 12],.gl 901 45 11 0]
def ziX:LoopS:=⟨5,zeK.map (tnA (jf (hZ 15 [kI 1])) (kf [0,1,2]) (kf [])),(.p (15)),(drs [0,1,2,3,4] zeK)⟩
def zrX:Tr:=.s [(0,.fb 10 false),(6002,.ln 35 3 14),(6003,.bin .lss 3 15 16)] (.b 17 (.s [(6006,.bin .sub 3 15 (kI 1)),(6007,.ia 35 26 3 14 18),(6008,.ld 26 3 19),(6011,.ia 35 26 3 14 15),(6012,.ld 26 3 23),(6013,.call 20 [.o (.g [20,21,22]),.o (.g [24,25,26])] (.o (.g 3))),(0,.raw [(1006015,.bin .eql 26 (.o (.g [27,28,29])) (.o (.g [.k (.int .i64 0),.k (.int .i64 0),.k (.int .i64 0)])) 30)] 1)] (.b 30 (.s [(0,.raw [(1006016,.pan ⟨55,[30,.o (.c (.k (.int .i64 17)))],[],31,[]⟩)] 1)] (.z (.xt (.p (31)) (hZ 15 [31]) [0,1,2] []))) (.s [(6016,.call 55 [30,LF (kI 17)] (.t [])),(6018,.bin .add 3 15 (kI 1))] (.z (.nx (hZ 15 [31]) [0,1,2] []))))) (.z .no))
theorem zlA {w0:World} (su:(List (List UInt8×Sb))) (pt:Vec) (mv:(List Mov)) (dn:Int) (c:Str) (v1:Int) (v2:Bool) (v4:(List Vec)) (v5:(List Vec)) (h3:v2=false) (er:Int) (hl:1≤v5.length) (hl2:v5.length≤1000) (hO:backL (v5)=true) (hE:(17:Int)=er):LpH (KN w0) Tryz.prog 57 ⟨ntOf Tryz.prog 57,[900,901,902,903,904],[901,903,904]⟩ ziX 0 ⟨16,[.v (.iface 37 (.int .i64 er)),.ls 3 cV kV v5,.ls 3 cV kV v4,.ls 1 cI kIc c.2.2.2,.ls 3 cV kV c.2.2.1,sB v2,sI v1,sI c.2.1,sI c.1.2.2,sI c.1.2.1,sI c.1.1,sI dn,sI pt.2.2,sI pt.2.1,sI pt.1,.q (pSu su)],[pG cM mv,pG cV c.2.2.1,pG cI c.2.2.2],[]⟩:=by
 refine zi _ ⟨zeK,ziX,(16,3,0),(16,3,0),6000⟩ (T:=Int) (fun t=>⟨16,[sI t,.ls 3 cV kV v5,.ls 3 cV kV v4,.ls 1 cI kIc c.2.2.2,.ls 3 cV kV c.2.2.1,sB v2,sI v1,sI c.2.1,sI c.1.2.2,sI c.1.2.1,sI c.1.1,sI dn,sI pt.2.2,sI pt.2.1,sI pt.1,.q (pSu su)],[pG cM mv,pG cV c.2.2.1,pG cI c.2.2.2],[]⟩) (fun i=>∃k:Nat,i=((k+1:Nat):Int)∧k+1≤v5.length∧backL (v5.drop k)=true) (fun i=>((v5.length:Int) - i).toNat) (1:Int) (hZ 15 [kI 1]) [0,1,2] [] zrX mixed ⟨0,rfl,by omega,hO⟩ rfl rfl rfl rfl (fun _=>rfl) rfl rfl (by kernel_rfl) ?_
 intro i hJ
 obtain ⟨k,hi,hk,hs⟩:=hJ
 refine ai h3 ?_
 intro v501 e501 v502 e502
 refine ai (fun h503=>?_) fun h503=>?_
 ·
  intro v504 e504
  refine ai (by (have dh503:=LD e502 h503;have hz:=e501;have hw:v504=((k:Nat):Int):=(by rw [← e504,wri (by omega)];omega);have hlt:k<v5.length:=(by omega);exact ⟨k,_,hw,List.getElem?_eq_getElem hlt⟩)) fun n505 x506 s507 s508=>?_
  refine ai (by (have dh503:=LD e502 h503;have hz:=e501;have hlt:k+1<v5.length:=(by omega);exact ⟨k+1,_,by omega,List.getElem?_eq_getElem hlt⟩)) fun n509 x510 s511 s512=>?_
  obtain ⟨v513,e513⟩:=LX (addV x506 x510)
  refine cx (.o (.g [sI v513.1,sI v513.2.1,sI v513.2.2])) (t_add x506 x510 v513 e513) rfl ?_
  obtain ⟨v514,e514⟩:=LX (decide (v513=((0:Int),(0:Int),(0:Int))))
  refine rx [sB v514] [] [] (fun t u w=>⟨e_eqV (x:=v513) (y:=((0:Int),(0:Int),(0:Int))) (neg:=false) ⟨(za rfl),(za rfl),(za rfl),trivial⟩ ⟨zf,zf,zf,trivial⟩ (za (by rw [e514];rfl)),trivial⟩) ?_
  refine ai (fun h515=>?_) fun h515=>?_
  ·
   have s516:(v514 && ((17:Int) != 0))=true:=by (rw [h515];rfl)
   refine rx [.v (.iface 37 (.int .i64 (17:Int)))] [] [] (fun t u w=>⟨b_con (pan:=true) (zh v514 (17:Int) (17:Int) rfl s516),trivial⟩) ?_
   have hq:(((17:Int))=er)∧True:=by
    refine ⟨?_,trivial⟩
    exact hE
   obtain ⟨q0,-⟩:=hq
   rw [← q0]
   rfl
  ·
   have s516:(v514 && ((17:Int) != 0))=false:=by (rw [h515];rfl)
   refine cx (.t []) (zv v514 (17:Int) s516) rfl ?_
   intro v517 e517
   refine nxl v517 ?_ ?_ rfl
   all_goals (have dh503:=LD e502 h503;have dh515:=LE e514 h515;have hz:=e501;have qn505:n505=k:=(by have hw:v504=((k:Nat):Int):=(by rw [← e504,wri (by omega)];omega);omega);have qn509:n509=k+1:=(by omega);rw [qn505] at s508;rw [qn509] at s512;have hd:decide (addV x506 x510=(0,0,0))=false:=(by rw [e513];exact e514.trans h515);rw [zgG s508 s512,hd] at hs;rw [Bool.false_or] at hs;have x3:v517=((k+1+1:Nat):Int):=(by rw [← e517,hi,wri (by omega)];omega))
   ·show (((v5.length:Int) - v517).toNat)<((v5.length:Int) - i).toNat
    omega
   ·exact ⟨k+1,x3,by omega,hs⟩
 ·
  exfalso
  (have dh503:=LE e502 h503;have hz:=e501;rw [znh (by omega)] at hs;cases hs)
def zeL:List Atom:=[.sl 0 (.o (.c (.p 900 0))),.sl 2 (.o (.c (.p 902 0))),.sl 3 13,.sl 53 14,.sl 54 15,.sl 55 16,.bx 900 108 [.h 0,.h 1,.h 2,.h 3,.gr 901,.h 4,.k (.pointer none)],.bx 902 141 [.h 5,.h 6,.h 7,.h 8,.h 11,.h 12],.gl 901 45 11 0]
def ziY:LoopS:=⟨9,zeL.map (tnA (jf (hZ 16 [kI 0])) (kf [0,1,2]) (kf [])),(.x 2),(drs [5] zeL)⟩
def zrY:Tr:=.s [(0,.fb 10 false),(8000,.bin .lss 3 16 15)] (.b 17 (.s [(8002,.ia 35 26 3 14 16),(8003,.ld 26 3 18),(8009,.ia 35 26 3 13 16),(8010,.ld 26 3 22),(8013,.bin .add 3 16 (kI 1)),(8014,.ia 35 26 3 13 26),(8015,.ld 26 3 27),(8016,.call 84 [.o (.g [23,24,25]),.o (.g [28,29,30])] (.o (.g 3))),(0,.raw [(1008018,.bin .neq 26 (.o (.g [31,32,33])) (.o (.g [19,20,21])) 34)] 1)] (.b 34 (.s [(0,.raw [(1008019,.pan ⟨55,[34,.o (.c (.k (.int .i64 17)))],[],35,[]⟩)] 1)] (.z .no)) (.s [(8019,.call 55 [34,LF (kI 17)] (.t [])),(8020,.bin .add 3 16 (kI 1))] (.z (.nx (hZ 16 [35]) [0,1,2] []))))) (.z (.xt (.x 2) (hZ 16 []) [0,1,2] [])))
theorem zlB {w0:World} (su:(List (List UInt8×Sb))) (pt:Vec) (mv:(List Mov)) (dn:Int) (c:Str) (v1:Int) (v2:Bool) (v4:(List Vec)) (v5:(List Vec)) (v8:Int) (h3:v2=false) (hlen:(v5.length:Int)=v8) (hl:v4.length=v5.length+1) (hl2:v5.length≤1000) (hO:turnL (v4) (v5)=false):LpH (KN w0) Tryz.prog 57 ⟨ntOf Tryz.prog 57,[900,901,902,903,904],[901,903,904]⟩ ziY 1 ⟨16,[sI v8,.ls 3 cV kV v5,.ls 3 cV kV v4,.ls 1 cI kIc c.2.2.2,.ls 3 cV kV c.2.2.1,sB v2,sI v1,sI c.2.1,sI c.1.2.2,sI c.1.2.1,sI c.1.1,sI dn,sI pt.2.2,sI pt.2.1,sI pt.1,.q (pSu su)],[pG cM mv,pG cV c.2.2.1,pG cI c.2.2.2],[]⟩:=by
 refine zi _ ⟨zeL,ziY,(17,3,0),(16,3,0),8000⟩ (T:=Int) (fun t=>⟨17,[sI t,sI v8,.ls 3 cV kV v5,.ls 3 cV kV v4,.ls 1 cI kIc c.2.2.2,.ls 3 cV kV c.2.2.1,sB v2,sI v1,sI c.2.1,sI c.1.2.2,sI c.1.2.1,sI c.1.1,sI dn,sI pt.2.2,sI pt.2.1,sI pt.1,.q (pSu su)],[pG cM mv,pG cV c.2.2.1,pG cI c.2.2.2],[]⟩) (fun i=>∃k:Nat,i=((k+0:Nat):Int)∧k+0≤v5.length∧turnL (v4.drop k) (v5.drop k)=false) (fun i=>(v8 - i).toNat) (0:Int) (hZ 16 [kI 0]) [0,1,2] [] zrY mixed ⟨0,rfl,by omega,hO⟩ rfl rfl rfl rfl (fun _=>rfl) rfl rfl (by kernel_rfl) ?_
 intro i hJ
 obtain ⟨k,hi,hk,hs⟩:=hJ
 refine ai h3 ?_
 intro v501 e501
 refine ai (fun h502=>?_) fun h502=>?_
 ·
  refine ai (by (have dh502:=LD e501 h502;have hlt:k+0<v5.length:=(by omega);exact ⟨k+0,_,by omega,List.getElem?_eq_getElem hlt⟩)) fun n503 x504 s505 s506=>?_
  refine ai (by (have dh502:=LD e501 h502;have hlt:k+0<v4.length:=(by omega);exact ⟨k+0,_,by omega,List.getElem?_eq_getElem hlt⟩)) fun n507 x508 s509 s510=>?_
  intro v511 e511
  refine ai (by (have dh502:=LD e501 h502;have hw:v511=((k+1:Nat):Int):=(by rw [← e511,wri (by omega)];omega);have hlt:k+1<v4.length:=(by omega);exact ⟨k+1,_,hw,List.getElem?_eq_getElem hlt⟩)) fun n512 x513 s514 s515=>?_
  obtain ⟨v516,e516⟩:=LX (headV x508 x513)
  refine cx (.o (.g [sI v516.1,sI v516.2.1,sI v516.2.2])) (zgj x508 x513 v516 e516) rfl ?_
  obtain ⟨v517,e517⟩:=LX (!decide (v516=x504))
  refine rx [sB v517] [] [] (fun t u w=>⟨e_eqV (x:=v516) (y:=x504) (neg:=true) ⟨(za rfl),(za rfl),(za rfl),trivial⟩ ⟨(za rfl),(za rfl),(za rfl),trivial⟩ (za (by rw [e517];rfl)),trivial⟩) ?_
  refine ai (fun h518=>?_) fun h518=>?_
  ·
   have s519:(v517 && ((17:Int) != 0))=true:=by (rw [h518];rfl)
   refine rx [.v (.iface 37 (.int .i64 (17:Int)))] [] [] (fun t u w=>⟨b_con (pan:=true) (zh v517 (17:Int) (17:Int) rfl s519),trivial⟩) ?_
   exfalso
   (have dh502:=LD e501 h502;have dh518:=(Bool.not_eq_true' _).mp (e517.trans h518);have qn503:n503=k:=(by omega);have qn507:n507=k:=(by omega);have qn512:n512=k+1:=(by have hw:v511=((k+1:Nat):Int):=(by rw [← e511,wri (by omega)];omega);omega);rw [qn503] at s506;rw [qn507] at s510;rw [qn512] at s515;have hd:(!decide (headV x508 x513=x504))=true:=(by rw [e516];exact e517.trans h518);rw [zh6 s510 s515 s506,hd] at hs;rw [Bool.true_or] at hs;cases hs)
  ·
   have s519:(v517 && ((17:Int) != 0))=false:=by (rw [h518];rfl)
   refine cx (.t []) (zv v517 (17:Int) s519) rfl ?_
   intro v520 e520
   refine nxl v520 ?_ ?_ rfl
   all_goals (have dh502:=LD e501 h502;have dh518:=(Bool.not_eq_false' _).mp (e517.trans h518);have qn503:n503=k:=(by omega);have qn507:n507=k:=(by omega);have qn512:n512=k+1:=(by have hw:v511=((k+1:Nat):Int):=(by rw [← e511,wri (by omega)];omega);omega);rw [qn503] at s506;rw [qn507] at s510;rw [qn512] at s515;have hd:(!decide (headV x508 x513=x504))=false:=(by rw [e516];exact e517.trans h518);rw [zh6 s510 s515 s506,hd] at hs;rw [Bool.false_or] at hs;have x3:v520=((k+1+0:Nat):Int):=(by rw [← e520,hi,wri (by omega)];omega))
   ·show ((v8 - v520).toNat)<(v8 - i).toNat
    omega
   ·exact ⟨k+1,x3,by omega,hs⟩
 ·
  rfl
def zeM:List Atom:=[.sl 0 (.o (.c (.p 900 0))),.sl 2 (.o (.c (.p 902 0))),.sl 3 13,.sl 53 14,.sl 54 15,.sl 55 16,.bx 900 108 [.h 0,.h 1,.h 2,.h 3,.gr 901,.h 4,.k (.pointer none)],.bx 902 141 [.h 5,.h 6,.h 7,.h 8,.h 11,.h 12],.gl 901 45 11 0]
def ziZ:LoopS:=⟨9,zeM.map (tnA (jf (hZ 16 [kI 0])) (kf [0,1,2]) (kf [])),(.p (16)),(drs [0,1,2,3,4,5] zeM)⟩
def zrZ:Tr:=.s [(0,.fb 10 false),(8000,.bin .lss 3 16 15)] (.b 17 (.s [(8002,.ia 35 26 3 14 16),(8003,.ld 26 3 18),(8009,.ia 35 26 3 13 16),(8010,.ld 26 3 22),(8013,.bin .add 3 16 (kI 1)),(8014,.ia 35 26 3 13 26),(8015,.ld 26 3 27),(8016,.call 84 [.o (.g [23,24,25]),.o (.g [28,29,30])] (.o (.g 3))),(0,.raw [(1008018,.bin .neq 26 (.o (.g [31,32,33])) (.o (.g [19,20,21])) 34)] 1)] (.b 34 (.s [(0,.raw [(1008019,.pan ⟨55,[34,.o (.c (.k (.int .i64 17)))],[],35,[]⟩)] 1)] (.z (.xt (.p (35)) (hZ 16 [35]) [0,1,2] []))) (.s [(8019,.call 55 [34,LF (kI 17)] (.t [])),(8020,.bin .add 3 16 (kI 1))] (.z (.nx (hZ 16 [35]) [0,1,2] []))))) (.z .no))
theorem zlC {w0:World} (su:(List (List UInt8×Sb))) (pt:Vec) (mv:(List Mov)) (dn:Int) (c:Str) (v1:Int) (v2:Bool) (v4:(List Vec)) (v5:(List Vec)) (v8:Int) (h3:v2=false) (er:Int) (hlen:(v5.length:Int)=v8) (hl:v4.length=v5.length+1) (hl2:v5.length≤1000) (hO:turnL (v4) (v5)=true) (hE:(17:Int)=er):LpH (KN w0) Tryz.prog 57 ⟨ntOf Tryz.prog 57,[900,901,902,903,904],[901,903,904]⟩ ziZ 1 ⟨17,[.v (.iface 37 (.int .i64 er)),sI v8,.ls 3 cV kV v5,.ls 3 cV kV v4,.ls 1 cI kIc c.2.2.2,.ls 3 cV kV c.2.2.1,sB v2,sI v1,sI c.2.1,sI c.1.2.2,sI c.1.2.1,sI c.1.1,sI dn,sI pt.2.2,sI pt.2.1,sI pt.1,.q (pSu su)],[pG cM mv,pG cV c.2.2.1,pG cI c.2.2.2],[]⟩:=by
 refine zi _ ⟨zeM,ziZ,(17,3,0),(17,3,0),8000⟩ (T:=Int) (fun t=>⟨17,[sI t,sI v8,.ls 3 cV kV v5,.ls 3 cV kV v4,.ls 1 cI kIc c.2.2.2,.ls 3 cV kV c.2.2.1,sB v2,sI v1,sI c.2.1,sI c.1.2.2,sI c.1.2.1,sI c.1.1,sI dn,sI pt.2.2,sI pt.2.1,sI pt.1,.q (pSu su)],[pG cM mv,pG cV c.2.2.1,pG cI c.2.2.2],[]⟩) (fun i=>∃k:Nat,i=((k+0:Nat):Int)∧k+0≤v5.length∧turnL (v4.drop k) (v5.drop k)=true) (fun i=>(v8 - i).toNat) (0:Int) (hZ 16 [kI 0]) [0,1,2] [] zrZ mixed ⟨0,rfl,by omega,hO⟩ rfl rfl rfl rfl (fun _=>rfl) rfl rfl (by kernel_rfl) ?_
 intro i hJ
 obtain ⟨k,hi,hk,hs⟩:=hJ
 refine ai h3 ?_
 intro v501 e501
 refine ai (fun h502=>?_) fun h502=>?_
 ·
  refine ai (by (have dh502:=LD e501 h502;have hlt:k+0<v5.length:=(by omega);exact ⟨k+0,_,by omega,List.getElem?_eq_getElem hlt⟩)) fun n503 x504 s505 s506=>?_
  refine ai (by (have dh502:=LD e501 h502;have hlt:k+0<v4.length:=(by omega);exact ⟨k+0,_,by omega,List.getElem?_eq_getElem hlt⟩)) fun n507 x508 s509 s510=>?_
  intro v511 e511
  refine ai (by (have dh502:=LD e501 h502;have hw:v511=((k+1:Nat):Int):=(by rw [← e511,wri (by omega)];omega);have hlt:k+1<v4.length:=(by omega);exact ⟨k+1,_,hw,List.getElem?_eq_getElem hlt⟩)) fun n512 x513 s514 s515=>?_
  obtain ⟨v516,e516⟩:=LX (headV x508 x513)
  refine cx (.o (.g [sI v516.1,sI v516.2.1,sI v516.2.2])) (zgj x508 x513 v516 e516) rfl ?_
  obtain ⟨v517,e517⟩:=LX (!decide (v516=x504))
  refine rx [sB v517] [] [] (fun t u w=>⟨e_eqV (x:=v516) (y:=x504) (neg:=true) ⟨(za rfl),(za rfl),(za rfl),trivial⟩ ⟨(za rfl),(za rfl),(za rfl),trivial⟩ (za (by rw [e517];rfl)),trivial⟩) ?_
  refine ai (fun h518=>?_) fun h518=>?_
  ·
   have s519:(v517 && ((17:Int) != 0))=true:=by (rw [h518];rfl)
   refine rx [.v (.iface 37 (.int .i64 (17:Int)))] [] [] (fun t u w=>⟨b_con (pan:=true) (zh v517 (17:Int) (17:Int) rfl s519),trivial⟩) ?_
   have hq:(((17:Int))=er)∧True:=by
    refine ⟨?_,trivial⟩
    exact hE
   obtain ⟨q0,-⟩:=hq
   rw [← q0]
   rfl
  ·
   have s519:(v517 && ((17:Int) != 0))=false:=by (rw [h518];rfl)
   refine cx (.t []) (zv v517 (17:Int) s519) rfl ?_
   intro v520 e520
   refine nxl v520 ?_ ?_ rfl
   all_goals (have dh502:=LD e501 h502;have dh518:=(Bool.not_eq_false' _).mp (e517.trans h518);have qn503:n503=k:=(by omega);have qn507:n507=k:=(by omega);have qn512:n512=k+1:=(by have hw:v511=((k+1:Nat):Int):=(by rw [← e511,wri (by omega)];omega);omega);rw [qn503] at s506;rw [qn507] at s510;rw [qn512] at s515;have hd:(!decide (headV x508 x513=x504))=false:=(by rw [e516];exact e517.trans h518);rw [zh6 s510 s515 s506,hd] at hs;rw [Bool.false_or] at hs;have x3:v520=((k+1+0:Nat):Int):=(by rw [← e520,hi,wri (by omega)];omega))
   ·show ((v8 - v520).toNat)<(v8 - i).toNat
    omega
   ·exact ⟨k+1,x3,by omega,hs⟩
 ·
  exfalso
  (have dh502:=LE e501 h502;have hkl:k=v5.length:=(by omega);subst hkl;rw [List.drop_length,zoI] at hs;cases hs)
def zeN:List Atom:=[.sl 0 (.o (.c (.p 900 0))),.sl 2 (.o (.c (.p 902 0))),.sl 3 13,.sl 74 13,.sl 75 16,.sl 76 17,.bx 900 108 [.h 0,.h 1,.h 2,.h 3,.gr 901,.h 4,.k (.pointer none)],.bx 902 141 [.h 5,.h 6,.h 7,.h 8,.h 11,.h 12],.gl 901 45 11 0]
def zi0:LoopS:=⟨14,zeN.map (tnA (jf (hZ 17 [kI 0])) (kf [0,1,2]) (kf [])),(.x 4),(drs [5] zeN)⟩
def zr0:Tr:=.s [(0,.fb 10 false),(10000,.bin .lss 3 17 16)] (.b 18 (.s [(10001,.ia 35 26 3 13 17),(10002,.ld 26 3 19),(10006,.call 34 [.o (.g [20,21,22])] (.o .c)),(10007,.un .not 23)] (.b 24 (.s [(0,.raw [(1010008,.pan ⟨55,[24,.o (.c (.k (.int .i64 3)))],[],25,[]⟩)] 1)] (.z .no)) (.s [(10008,.call 55 [24,LF (kI 3)] (.t [])),(10009,.bin .add 3 17 (kI 1))] (.z (.nx (hZ 17 [25]) [0,1,2] []))))) (.z (.xt (.x 4) (hZ 17 []) [0,1,2] [])))
theorem zlD {w0:World} (su:(List (List UInt8×Sb))) (pt:Vec) (mv:(List Mov)) (dn:Int) (c:Str) (v1:Int) (v2:Bool) (v4:(List Vec)) (v5:(List Vec)) (v8:Int) (v9:Int) (h3:v2=false) (hlen:(v4.length:Int)=v9) (hl2:v4.length≤1001) (hO:v4.all inV=true):LpH (KN w0) Tryz.prog 57 ⟨ntOf Tryz.prog 57,[900,901,902,903,904],[901,903,904]⟩ zi0 2 ⟨17,[sI v9,sI v8,.ls 3 cV kV v5,.ls 3 cV kV v4,.ls 1 cI kIc c.2.2.2,.ls 3 cV kV c.2.2.1,sB v2,sI v1,sI c.2.1,sI c.1.2.2,sI c.1.2.1,sI c.1.1,sI dn,sI pt.2.2,sI pt.2.1,sI pt.1,.q (pSu su)],[pG cM mv,pG cV c.2.2.1,pG cI c.2.2.2],[]⟩:=by
 refine zi _ ⟨zeN,zi0,(18,3,0),(17,3,0),10000⟩ (T:=Int) (fun t=>⟨18,[sI t,sI v9,sI v8,.ls 3 cV kV v5,.ls 3 cV kV v4,.ls 1 cI kIc c.2.2.2,.ls 3 cV kV c.2.2.1,sB v2,sI v1,sI c.2.1,sI c.1.2.2,sI c.1.2.1,sI c.1.1,sI dn,sI pt.2.2,sI pt.2.1,sI pt.1,.q (pSu su)],[pG cM mv,pG cV c.2.2.1,pG cI c.2.2.2],[]⟩) (fun i=>∃k:Nat,i=(k:Int)∧k≤v4.length∧(v4.drop k).all inV=true) (fun i=>(v9 - i).toNat) (0:Int) (hZ 17 [kI 0]) [0,1,2] [] zr0 mixed ⟨0,rfl,Nat.zero_le _,hO⟩ rfl rfl rfl rfl (fun _=>rfl) rfl rfl (by kernel_rfl) ?_
 intro i hJ
 obtain ⟨k,hi,hk,hs⟩:=hJ
 refine ai h3 ?_
 intro v501 e501
 refine ai (fun h502=>?_) fun h502=>?_
 ·
  refine ai (by (have dh502:=LD e501 h502;have hlt:k+0<v4.length:=(by omega);exact ⟨k+0,_,by omega,List.getElem?_eq_getElem hlt⟩)) fun n503 x504 s505 s506=>?_
  obtain ⟨v507,e507⟩:=LX (inV x504)
  refine cx (.o (.c (sB v507))) (t_in x504 v507 e507) rfl ?_
  intro v508 e508
  refine ai (fun h509=>?_) fun h509=>?_
  ·
   have s510:(v508 && ((3:Int) != 0))=true:=by (rw [h509];rfl)
   refine rx [.v (.iface 37 (.int .i64 (3:Int)))] [] [] (fun t u w=>⟨b_con (pan:=true) (zh v508 (3:Int) (3:Int) rfl s510),trivial⟩) ?_
   exfalso
   (have dh502:=LD e501 h502;have dh509:=(Bool.not_eq_true' _).mp (e508.trans h509);have hkn:n503=k:=(by omega);subst hkn;have hlt:=(List.getElem?_eq_some_iff.1 s506).1;have hd:inV x504=false:=(by rw [e507];simpa using e508.trans h509);rw [zkr s506,hd] at hs;rw [Bool.false_and] at hs;cases hs)
  ·
   have s510:(v508 && ((3:Int) != 0))=false:=by (rw [h509];rfl)
   refine cx (.t []) (zv v508 (3:Int) s510) rfl ?_
   intro v511 e511
   refine nxl v511 ?_ ?_ rfl
   all_goals (have dh502:=LD e501 h502;have dh509:=(Bool.not_eq_false' _).mp (e508.trans h509);have hkn:n503=k:=(by omega);subst hkn;have hlt:=(List.getElem?_eq_some_iff.1 s506).1;have hd:inV x504=true:=(by rw [e507];simpa using e508.trans h509);rw [zkr s506,hd] at hs;rw [Bool.true_and] at hs;have x3:v511=((n503+1:Nat):Int):=(by rw [← e511,hi,wri (by omega)];omega))
   ·show (v9 - v511).toNat<(v9 - i).toNat
    omega
   ·exact ⟨n503+1,x3,by omega,hs⟩
 ·
  rfl
def zeO:List Atom:=[.sl 0 (.o (.c (.p 900 0))),.sl 2 (.o (.c (.p 902 0))),.sl 3 13,.sl 74 13,.sl 75 16,.sl 76 17,.bx 900 108 [.h 0,.h 1,.h 2,.h 3,.gr 901,.h 4,.k (.pointer none)],.bx 902 141 [.h 5,.h 6,.h 7,.h 8,.h 11,.h 12],.gl 901 45 11 0]
def zi1:LoopS:=⟨14,zeO.map (tnA (jf (hZ 17 [kI 0])) (kf [0,1,2]) (kf [])),(.p (17)),(drs [0,1,2,3,4,5] zeO)⟩
def zr1:Tr:=.s [(0,.fb 10 false),(10000,.bin .lss 3 17 16)] (.b 18 (.s [(10001,.ia 35 26 3 13 17),(10002,.ld 26 3 19),(10006,.call 34 [.o (.g [20,21,22])] (.o .c)),(10007,.un .not 23)] (.b 24 (.s [(0,.raw [(1010008,.pan ⟨55,[24,.o (.c (.k (.int .i64 3)))],[],25,[]⟩)] 1)] (.z (.xt (.p (25)) (hZ 17 [25]) [0,1,2] []))) (.s [(10008,.call 55 [24,LF (kI 3)] (.t [])),(10009,.bin .add 3 17 (kI 1))] (.z (.nx (hZ 17 [25]) [0,1,2] []))))) (.z .no))
theorem zlE {w0:World} (su:(List (List UInt8×Sb))) (pt:Vec) (mv:(List Mov)) (dn:Int) (c:Str) (v1:Int) (v2:Bool) (v4:(List Vec)) (v5:(List Vec)) (v8:Int) (v9:Int) (h3:v2=false) (er:Int) (hlen:(v4.length:Int)=v9) (hl2:v4.length≤1001) (hO:v4.all inV=false) (hE:(3:Int)=er):LpH (KN w0) Tryz.prog 57 ⟨ntOf Tryz.prog 57,[900,901,902,903,904],[901,903,904]⟩ zi1 2 ⟨18,[.v (.iface 37 (.int .i64 er)),sI v9,sI v8,.ls 3 cV kV v5,.ls 3 cV kV v4,.ls 1 cI kIc c.2.2.2,.ls 3 cV kV c.2.2.1,sB v2,sI v1,sI c.2.1,sI c.1.2.2,sI c.1.2.1,sI c.1.1,sI dn,sI pt.2.2,sI pt.2.1,sI pt.1,.q (pSu su)],[pG cM mv,pG cV c.2.2.1,pG cI c.2.2.2],[]⟩:=by
 refine zi _ ⟨zeO,zi1,(18,3,0),(18,3,0),10000⟩ (T:=Int) (fun t=>⟨18,[sI t,sI v9,sI v8,.ls 3 cV kV v5,.ls 3 cV kV v4,.ls 1 cI kIc c.2.2.2,.ls 3 cV kV c.2.2.1,sB v2,sI v1,sI c.2.1,sI c.1.2.2,sI c.1.2.1,sI c.1.1,sI dn,sI pt.2.2,sI pt.2.1,sI pt.1,.q (pSu su)],[pG cM mv,pG cV c.2.2.1,pG cI c.2.2.2],[]⟩) (fun i=>∃k:Nat,i=(k:Int)∧k≤v4.length∧(v4.drop k).all inV=false) (fun i=>(v9 - i).toNat) (0:Int) (hZ 17 [kI 0]) [0,1,2] [] zr1 mixed ⟨0,rfl,Nat.zero_le _,hO⟩ rfl rfl rfl rfl (fun _=>rfl) rfl rfl (by kernel_rfl) ?_
 intro i hJ
 obtain ⟨k,hi,hk,hs⟩:=hJ
 refine ai h3 ?_
 intro v501 e501
 refine ai (fun h502=>?_) fun h502=>?_
 ·
  refine ai (by (have dh502:=LD e501 h502;have hlt:k+0<v4.length:=(by omega);exact ⟨k+0,_,by omega,List.getElem?_eq_getElem hlt⟩)) fun n503 x504 s505 s506=>?_
  obtain ⟨v507,e507⟩:=LX (inV x504)
  refine cx (.o (.c (sB v507))) (t_in x504 v507 e507) rfl ?_
  intro v508 e508
  refine ai (fun h509=>?_) fun h509=>?_
  ·
   have s510:(v508 && ((3:Int) != 0))=true:=by (rw [h509];rfl)
   refine rx [.v (.iface 37 (.int .i64 (3:Int)))] [] [] (fun t u w=>⟨b_con (pan:=true) (zh v508 (3:Int) (3:Int) rfl s510),trivial⟩) ?_
   have hq:(((3:Int))=er)∧True:=by
    refine ⟨?_,trivial⟩
    exact hE
   obtain ⟨q0,-⟩:=hq
   rw [← q0]
   rfl
  ·
   have s510:(v508 && ((3:Int) != 0))=false:=by (rw [h509];rfl)
   refine cx (.t []) (zv v508 (3:Int) s510) rfl ?_
   intro v511 e511
   refine nxl v511 ?_ ?_ rfl
   all_goals (have dh502:=LD e501 h502;have dh509:=(Bool.not_eq_false' _).mp (e508.trans h509);have hkn:n503=k:=(by omega);subst hkn;have hlt:=(List.getElem?_eq_some_iff.1 s506).1;have hd:inV x504=true:=(by rw [e507];simpa using e508.trans h509);rw [zkr s506,hd] at hs;rw [Bool.true_and] at hs;have x3:v511=((n503+1:Nat):Int):=(by rw [← e511,hi,wri (by omega)];omega))
   ·show (v9 - v511).toNat<(v9 - i).toNat
    omega
   ·exact ⟨n503+1,x3,by omega,hs⟩
 ·
  exfalso
  (have dh502:=LE e501 h502;have hkl:k=v4.length:=(by omega);subst hkl;rw [List.drop_length] at hs;cases hs)
def zeP:List Atom:=[.sl 0 (.o (.c (.p 900 0))),.sl 2 (.o (.c (.p 902 0))),.sl 92 13,.sl 93 17,.sl 94 18,.bx 900 108 [.h 0,.h 19,.h 20,.h 21,.gr 901,.h 22,.k (.pointer none)],.bx 902 141 [.h 5,.h 6,.h 7,.h 8,.h 11,.h 12],.gl 901 45 11 3]
def zi2:LoopS:=⟨20,zeP.map (tnA (jf (hZ 18 [kI 0,5,6,7,4])) (kf [0,1,2,0]) (kf [])),(.x 6),(drs [4] zeP).map (tnA (jf (hZ 19 [18,19,20,21])) (kf [0,1,2,3]) (kf []))⟩
def zr2:Tr:=.s [(0,.fb 10 false),(12000,.bin .lss 3 18 17)] (.b 23 (.s [(12002,.ia 35 26 3 13 18),(12003,.ld 26 3 24),(12014,.bin .sub 3 18 (kI 1)),(0,.raw [(1012015,.op (.max [3,3] 3) [28,LF (.k (.int .i64 0))] [] 29)] 1),(12016,.ia 24 3 1 12 29),(12017,.ld 3 0 30)] (.r (.s [(0,.raw [(1012019,.call ⟨85,[LF (.p 900 0),.o (.g [.k (.int .i64 2),.k (.int .i64 0),.k (.int .i64 0),.k (.int .i64 0),25,26,27,.k (.int .i64 0),.k (.int .i64 0),.k (.int .i64 0),31])],rnN 0 19 20 21 22 3,.t [],rnN 0 32 33 34 35 4⟩)] 4),(12020,.bin .add 3 18 (kI 1))] (.z (.nx (hZ 18 [36,32,33,34,35]) [0,1,2,4] []))) (.s [(0,.raw [(1012019,.pan ⟨85,[LF (.p 900 0),.o (.g [.k (.int .i64 2),.k (.int .i64 0),.k (.int .i64 0),.k (.int .i64 0),25,26,27,.k (.int .i64 0),.k (.int .i64 0),.k (.int .i64 0),31])],rnN 0 19 20 21 22 3,32,[]⟩)] 1)] (.z .no)))) (.z (.xt (.x 6) (hZ 18 [19,20,21,22]) [0,1,2,3] [])))
theorem zlF {w0:World} (su:(List (List UInt8×Sb))) (pt:Vec) (mv:(List Mov)) (dn:Int) (c:Str) (v1:Int) (v2:Bool) (v4:(List Vec)) (v5:(List Vec)) (v8:Int) (v9:Int) (v10:Int) (h3:v2=false) (pt2:Vec) (dn2:Int) (mv2:(List Mov)) (hlen:(v4.length:Int)=v10) (hl2:v4.length≤1001) (hf:v4.length≤c.2.2.2.length+1) (hf0:1≤c.2.2.2.length) (hmv:mv.length≤40) (hO:addsL c.2.2.2 0 v4 (c.1,mv,dn,none)=.ok (pt2,mv2,dn2,none)):LpH (KN w0) Tryz.prog 57 ⟨ntOf Tryz.prog 57,[900,901,902,903,904],[901,903,904]⟩ zi2 3 ⟨22,[sI dn2,sI pt2.2.2,sI pt2.2.1,sI pt2.1,sI v10,sI v9,sI v8,.ls 3 cV kV v5,.ls 3 cV kV v4,.ls 1 cI kIc c.2.2.2,.ls 3 cV kV c.2.2.1,sB v2,sI v1,sI c.2.1,sI c.1.2.2,sI c.1.2.1,sI c.1.1,sI dn,sI pt.2.2,sI pt.2.1,sI pt.1,.q (pSu su)],[pG cM mv,pG cV c.2.2.1,pG cI c.2.2.2,pG cM mv2],[]⟩:=by
 refine zi _ ⟨zeP,zi2,(23,4,0),(22,4,0),12000⟩ (T:=Int×Vec×Int×(List Mov)) (fun t=>⟨23,[sI t.2.2.1,sI t.2.1.2.2,sI t.2.1.2.1,sI t.2.1.1,sI t.1,sI v10,sI v9,sI v8,.ls 3 cV kV v5,.ls 3 cV kV v4,.ls 1 cI kIc c.2.2.2,.ls 3 cV kV c.2.2.1,sB v2,sI v1,sI c.2.1,sI c.1.2.2,sI c.1.2.1,sI c.1.1,sI dn,sI pt.2.2,sI pt.2.1,sI pt.1,.q (pSu su)],[pG cM mv,pG cV c.2.2.1,pG cI c.2.2.2,pG cM t.2.2.2],[]⟩) (fun (i,pt_,dn_,mv_)=>∃k:Nat,i=(k:Int)∧k≤v4.length∧mv_.length≤40∧addsL c.2.2.2 k (v4.drop k) (pt_,mv_,dn_,none)=.ok (pt2,mv2,dn2,none)) (fun (i,pt_,dn_,mv_)=>(v10 - i).toNat) ((0:Int),c.1,dn,mv) (hZ 18 [kI 0,5,6,7,4]) [0,1,2,0] [] zr2 mixed ⟨0,rfl,Nat.zero_le _,hmv,hO⟩ rfl rfl rfl rfl (fun _=>rfl) rfl rfl (by kernel_rfl) ?_
 rintro ⟨i,pt_,dn_,mv_⟩ hJ
 dsimp only at hJ ⊢
 obtain ⟨k,hi,hk,hm,hs⟩:=hJ
 refine ai h3 ?_
 intro v501 e501
 refine ai (fun h502=>?_) fun h502=>?_
 ·
  refine ai (by (have dh502:=LD e501 h502;have hlt:k+0<v4.length:=(by omega);exact ⟨k+0,_,by omega,List.getElem?_eq_getElem hlt⟩)) fun n503 x504 s505 s506=>?_
  intro v507 e507
  obtain ⟨v508,e508⟩:=LX ((if (0:Int) > v507 then (0:Int) else v507))
  refine rx [sI v508] [] [] (fun t u w=>⟨e_op2 (za rfl) zf (za rfl) (fun W=>by rw [← e508];exact zfZ W),trivial⟩) ?_
  refine ai (by (have dh502:=LD e501 h502;have hw:v508=((k - 1:Nat):Int):=(by rw [← e508,← e507,wri (by omega),hi];split<;>omega);have hlt:k - 1<c.2.2.2.length:=(by omega);exact ⟨k - 1,_,hw,List.getElem?_eq_getElem hlt⟩)) fun n509 x510 s511 s512=>?_
  have s513:mv_.length≤40:=by exact hm
  cases h514:isOk (addS ((2:Int),((0:Int),(0:Int),(0:Int)),x504,((0:Int),(0:Int),(0:Int)),x510) (pt_,mv_,dn_,none)) with
  | true =>
   refine Or.inl ?_
   obtain ⟨v515,e515⟩:=LX (okOf (addS ((2:Int),((0:Int),(0:Int),(0:Int)),x504,((0:Int),(0:Int),(0:Int)),x510) (pt_,mv_,dn_,none)))
   refine rx [sI v515.1.1,sI v515.1.2.1,sI v515.1.2.2,sI v515.2.2.1] [pG cM v515.2.1] [] (fun t u w=>⟨q9 su ((2:Int),((0:Int),(0:Int),(0:Int)),x504,((0:Int),(0:Int),(0:Int)),x510) (pt_,mv_,dn_,none) v515 rfl s513 (ok_of h514 e515) ⟨rfl,rfl,rfl,rfl,rfl,rfl⟩ ⟨rfl,rfl,rfl,rfl,rfl,rfl⟩ rfl rfl rfl rfl,trivial⟩) ?_
   intro v516 e516
   refine nxl (v516,v515.1,v515.2.2.1,v515.2.1) ?_ ?_ rfl
   all_goals (have dh502:=LD e501 h502;have hkn:n503=k:=(by omega);subst hkn;have hlt:=(List.getElem?_eq_some_iff.1 s506).1;have hw:v508=((n503 - 1:Nat):Int):=(by rw [← e508,← e507,wri (by omega),hi];split<;>omega);have hf2:c.2.2.2.getD (n503 - 1) 0=x510:=zcI s512 (by omega);have ha:=ok_of h514 e515;rw [zen s506,hf2] at hs;rw [show addS (2,(0,0,0),x504,(0,0,0),x510) (pt_,mv_,dn_,none)=.ok v515 from ha] at hs;dsimp only at hs;rw [zdq (qd ha)] at hs;have hm2:=zem ha hm;have x3:v516=((n503+1:Nat):Int):=(by rw [← e516,hi,wri (by omega)];omega))
   ·show (v10 - v516).toNat<(v10 - i).toNat
    omega
   ·exact ⟨n503+1,x3,by omega,hm2,hs⟩
  | false =>
   refine Or.inr ?_
   obtain ⟨v515,e515⟩:=LX (errOf (addS ((2:Int),((0:Int),(0:Int),(0:Int)),x504,((0:Int),(0:Int),(0:Int)),x510) (pt_,mv_,dn_,none)))
   refine rx [.v (.iface 37 (.int .i64 v515))] [] [] (fun t u w=>⟨qH su ((2:Int),((0:Int),(0:Int),(0:Int)),x504,((0:Int),(0:Int),(0:Int)),x510) (pt_,mv_,dn_,none) v515 rfl s513 (zn h514 e515) ⟨rfl,rfl,rfl,rfl,rfl,rfl⟩ rfl rfl rfl,trivial⟩) ?_
   exfalso
   (have dh502:=LD e501 h502;have hkn:n503=k:=(by omega);subst hkn;have hlt:=(List.getElem?_eq_some_iff.1 s506).1;have hw:v508=((n503 - 1:Nat):Int):=(by rw [← e508,← e507,wri (by omega),hi];split<;>omega);have hf2:c.2.2.2.getD (n503 - 1) 0=x510:=zcI s512 (by omega);have ha:=zn h514 e515;rw [zen s506,hf2] at hs;rw [show addS (2,(0,0,0),x504,(0,0,0),x510) (pt_,mv_,dn_,none)=.error v515 from ha] at hs;dsimp only at hs;cases hs)
 ·
  have hq:((pt_)=pt2)∧((dn_)=dn2)∧((mv_)=mv2)∧True:=by
   refine ⟨?_,?_,?_,trivial⟩
   all_goals (have dh502:=LE e501 h502;have hkl:k=v4.length:=(by omega);subst hkl;rw [List.drop_length,addsL] at hs;injection hs with hs;simp only [Prod.mk.injEq,and_true] at hs;obtain ⟨a1,a2,a3⟩:=hs;first | exact a1 | exact a2 | exact a3)
  obtain ⟨q0,q1,q2,-⟩:=hq
  rw [← q0,← q1,← q2]
  rfl
def zeQ:List Atom:=[.sl 0 (.o (.c (.p 900 0))),.sl 2 (.o (.c (.p 902 0))),.sl 92 13,.sl 93 17,.sl 94 18,.bx 900 108 [.h 0,.h 19,.h 20,.h 21,.gr 901,.h 22,.k (.pointer none)],.bx 902 141 [.h 5,.h 6,.h 7,.h 8,.h 11,.h 12],.gl 901 45 11 3]
def zi3:LoopS:=⟨20,zeQ.map (tnA (jf (hZ 18 [kI 0,5,6,7,4])) (kf [0,1,2,0]) (kf [])),(.p (18)),(drs [0,1,2,3,4,5,7] zeQ)⟩
def zr3:Tr:=.s [(0,.fb 10 false),(12000,.bin .lss 3 18 17)] (.b 23 (.s [(12002,.ia 35 26 3 13 18),(12003,.ld 26 3 24),(12014,.bin .sub 3 18 (kI 1)),(0,.raw [(1012015,.op (.max [3,3] 3) [28,LF (.k (.int .i64 0))] [] 29)] 1),(12016,.ia 24 3 1 12 29),(12017,.ld 3 0 30)] (.r (.s [(0,.raw [(1012019,.call ⟨85,[LF (.p 900 0),.o (.g [.k (.int .i64 2),.k (.int .i64 0),.k (.int .i64 0),.k (.int .i64 0),25,26,27,.k (.int .i64 0),.k (.int .i64 0),.k (.int .i64 0),31])],rnN 0 19 20 21 22 3,.t [],rnN 0 32 33 34 35 4⟩)] 4),(12020,.bin .add 3 18 (kI 1))] (.z (.nx (hZ 18 [36,32,33,34,35]) [0,1,2,4] []))) (.s [(0,.raw [(1012019,.pan ⟨85,[LF (.p 900 0),.o (.g [.k (.int .i64 2),.k (.int .i64 0),.k (.int .i64 0),.k (.int .i64 0),25,26,27,.k (.int .i64 0),.k (.int .i64 0),.k (.int .i64 0),31])],rnN 0 19 20 21 22 3,32,[]⟩)] 1)] (.z (.xt (.p (32)) (hZ 18 [32]) [0,1,2] []))))) (.z .no))
theorem zlG {w0:World} (su:(List (List UInt8×Sb))) (pt:Vec) (mv:(List Mov)) (dn:Int) (c:Str) (v1:Int) (v2:Bool) (v4:(List Vec)) (v5:(List Vec)) (v8:Int) (v9:Int) (v10:Int) (h3:v2=false) (er:Int) (hlen:(v4.length:Int)=v10) (hl2:v4.length≤1001) (hf:v4.length≤c.2.2.2.length+1) (hf0:1≤c.2.2.2.length) (hmv:mv.length≤40) (hO:addsL c.2.2.2 0 v4 (c.1,mv,dn,none)=.error er):LpH (KN w0) Tryz.prog 57 ⟨ntOf Tryz.prog 57,[900,901,902,903,904],[901,903,904]⟩ zi3 3 ⟨19,[.v (.iface 37 (.int .i64 er)),sI v10,sI v9,sI v8,.ls 3 cV kV v5,.ls 3 cV kV v4,.ls 1 cI kIc c.2.2.2,.ls 3 cV kV c.2.2.1,sB v2,sI v1,sI c.2.1,sI c.1.2.2,sI c.1.2.1,sI c.1.1,sI dn,sI pt.2.2,sI pt.2.1,sI pt.1,.q (pSu su)],[pG cM mv,pG cV c.2.2.1,pG cI c.2.2.2],[]⟩:=by
 refine zi _ ⟨zeQ,zi3,(23,4,0),(19,3,0),12000⟩ (T:=Int×Vec×Int×(List Mov)) (fun t=>⟨23,[sI t.2.2.1,sI t.2.1.2.2,sI t.2.1.2.1,sI t.2.1.1,sI t.1,sI v10,sI v9,sI v8,.ls 3 cV kV v5,.ls 3 cV kV v4,.ls 1 cI kIc c.2.2.2,.ls 3 cV kV c.2.2.1,sB v2,sI v1,sI c.2.1,sI c.1.2.2,sI c.1.2.1,sI c.1.1,sI dn,sI pt.2.2,sI pt.2.1,sI pt.1,.q (pSu su)],[pG cM mv,pG cV c.2.2.1,pG cI c.2.2.2,pG cM t.2.2.2],[]⟩) (fun (i,pt_,dn_,mv_)=>∃k:Nat,i=(k:Int)∧k≤v4.length∧mv_.length≤40∧addsL c.2.2.2 k (v4.drop k) (pt_,mv_,dn_,none)=.error er) (fun (i,pt_,dn_,mv_)=>(v10 - i).toNat) ((0:Int),c.1,dn,mv) (hZ 18 [kI 0,5,6,7,4]) [0,1,2,0] [] zr3 mixed ⟨0,rfl,Nat.zero_le _,hmv,hO⟩ rfl rfl rfl rfl (fun _=>rfl) rfl rfl (by kernel_rfl) ?_
 rintro ⟨i,pt_,dn_,mv_⟩ hJ
 dsimp only at hJ ⊢
 obtain ⟨k,hi,hk,hm,hs⟩:=hJ
 refine ai h3 ?_
 intro v501 e501
 refine ai (fun h502=>?_) fun h502=>?_
 ·
  refine ai (by (have dh502:=LD e501 h502;have hlt:k+0<v4.length:=(by omega);exact ⟨k+0,_,by omega,List.getElem?_eq_getElem hlt⟩)) fun n503 x504 s505 s506=>?_
  intro v507 e507
  obtain ⟨v508,e508⟩:=LX ((if (0:Int) > v507 then (0:Int) else v507))
  refine rx [sI v508] [] [] (fun t u w=>⟨e_op2 (za rfl) zf (za rfl) (fun W=>by rw [← e508];exact zfZ W),trivial⟩) ?_
  refine ai (by (have dh502:=LD e501 h502;have hw:v508=((k - 1:Nat):Int):=(by rw [← e508,← e507,wri (by omega),hi];split<;>omega);have hlt:k - 1<c.2.2.2.length:=(by omega);exact ⟨k - 1,_,hw,List.getElem?_eq_getElem hlt⟩)) fun n509 x510 s511 s512=>?_
  have s513:mv_.length≤40:=by exact hm
  cases h514:isOk (addS ((2:Int),((0:Int),(0:Int),(0:Int)),x504,((0:Int),(0:Int),(0:Int)),x510) (pt_,mv_,dn_,none)) with
  | true =>
   refine Or.inl ?_
   obtain ⟨v515,e515⟩:=LX (okOf (addS ((2:Int),((0:Int),(0:Int),(0:Int)),x504,((0:Int),(0:Int),(0:Int)),x510) (pt_,mv_,dn_,none)))
   refine rx [sI v515.1.1,sI v515.1.2.1,sI v515.1.2.2,sI v515.2.2.1] [pG cM v515.2.1] [] (fun t u w=>⟨q9 su ((2:Int),((0:Int),(0:Int),(0:Int)),x504,((0:Int),(0:Int),(0:Int)),x510) (pt_,mv_,dn_,none) v515 rfl s513 (ok_of h514 e515) ⟨rfl,rfl,rfl,rfl,rfl,rfl⟩ ⟨rfl,rfl,rfl,rfl,rfl,rfl⟩ rfl rfl rfl rfl,trivial⟩) ?_
   intro v516 e516
   refine nxl (v516,v515.1,v515.2.2.1,v515.2.1) ?_ ?_ rfl
   all_goals (have dh502:=LD e501 h502;have hkn:n503=k:=(by omega);subst hkn;have hlt:=(List.getElem?_eq_some_iff.1 s506).1;have hw:v508=((n503 - 1:Nat):Int):=(by rw [← e508,← e507,wri (by omega),hi];split<;>omega);have hf2:c.2.2.2.getD (n503 - 1) 0=x510:=zcI s512 (by omega);have ha:=ok_of h514 e515;rw [zen s506,hf2] at hs;rw [show addS (2,(0,0,0),x504,(0,0,0),x510) (pt_,mv_,dn_,none)=.ok v515 from ha] at hs;dsimp only at hs;rw [zdq (qd ha)] at hs;have hm2:=zem ha hm;have x3:v516=((n503+1:Nat):Int):=(by rw [← e516,hi,wri (by omega)];omega))
   ·show (v10 - v516).toNat<(v10 - i).toNat
    omega
   ·exact ⟨n503+1,x3,by omega,hm2,hs⟩
  | false =>
   refine Or.inr ?_
   obtain ⟨v515,e515⟩:=LX (errOf (addS ((2:Int),((0:Int),(0:Int),(0:Int)),x504,((0:Int),(0:Int),(0:Int)),x510) (pt_,mv_,dn_,none)))
   refine rx [.v (.iface 37 (.int .i64 v515))] [] [] (fun t u w=>⟨qH su ((2:Int),((0:Int),(0:Int),(0:Int)),x504,((0:Int),(0:Int),(0:Int)),x510) (pt_,mv_,dn_,none) v515 rfl s513 (zn h514 e515) ⟨rfl,rfl,rfl,rfl,rfl,rfl⟩ rfl rfl rfl,trivial⟩) ?_
   have hq:((v515)=er)∧True:=by
    refine ⟨?_,trivial⟩
    (have dh502:=LD e501 h502;have hkn:n503=k:=(by omega);subst hkn;have hlt:=(List.getElem?_eq_some_iff.1 s506).1;have hw:v508=((n503 - 1:Nat):Int):=(by rw [← e508,← e507,wri (by omega),hi];split<;>omega);have hf2:c.2.2.2.getD (n503 - 1) 0=x510:=zcI s512 (by omega);have ha:=zn h514 e515;rw [zen s506,hf2] at hs;rw [show addS (2,(0,0,0),x504,(0,0,0),x510) (pt_,mv_,dn_,none)=.error v515 from ha] at hs;dsimp only at hs;injection hs)
   obtain ⟨q0,-⟩:=hq
   rw [← q0]
   rfl
 ·
  exfalso
  (have dh502:=LE e501 h502;have hkl:k=v4.length:=(by omega);subst hkl;rw [List.drop_length,addsL] at hs;cases hs)
theorem zjq {w0:World} (fr:Vec) (left:Int) (pts:List Vec) (feeds:List Int) (r1 r2:List Vec) (hr1:zL (fr,left,pts,feeds)=r1) (hr2:waysL fr pts=r2) (hne:pts≠[]) (hl:pts.length≤1000):BFun false (KN w0) Tryz.prog 83 [.o (.c (.p 0 0))] [(141,[.d (pI fr.1),.d (pI fr.2.1),.d (pI fr.2.2),.d (pI left),.d (pLs cV pts),.d (pLs cI feeds)])] (.t [.c (.d (pLs cV r1)),.c (.d (pLs cV r2))]) [(141,[.d (pI fr.1),.d (pI fr.2.1),.d (pI fr.2.2),.d (pI left),.d (pLs cV pts),.d (pLs cI feeds)])] :=
 zq5 (fr,left,pts,feeds) r1 r2 hr1 hr2 hne hl
def zhT:Tr:=.s [(0,.raw [(1000010,.bin .eql 106 (LF (.p 902 0)) (LF (.k (.pointer none))) (LF (.k (.bool false))))] 0),(0,.raw [(1000016,.op (.len [35] 3) [LF (.gr 903)] [.gl 903 26 3 1] 9)] 1),(17,.bin .eql 3 9 (kI 0)),(0,.gh ⟨2,[.gl 903 26 3 1,.bx 902 141 [.h 5,.h 6,.h 7,.h 8,.gr 903,.gr 904]],[.bx 902 141 [.h 5,.h 6,.h 7,.h 8,.h 11,.gr 904]],[903]⟩ 1),(0,.gh ⟨2,[.gl 904 3 1 2,.bx 902 141 [.h 5,.h 6,.h 7,.h 8,.h 11,.gr 904]],[.bx 902 141 [.h 5,.h 6,.h 7,.h 8,.h 11,.h 12]],[904]⟩ 1)] (.b 10 (.z (.ret false (.t []) (rnN 0 1 2 3 4 0))) (.s [(0,.raw [(1000020,.call ⟨83,[.o (.c (.p 902 0))],[.bx 902 141 [.h 5,.h 6,.h 7,.h 8,.h 11,.h 12]],.t [.c (.h 13),.c (.h 14)],[.bx 902 141 [.h 5,.h 6,.h 7,.h 8,.h 11,.h 12]]⟩)] 2)] (.r (.s [(0,.lp ziW 0 0),(1028,.ln 35 3 14)] (.r (.s [(0,.lp ziY 1 0),(2031,.ln 35 3 13)] (.r (.s [(0,.lp zi0 2 0),(3042,.ln 35 3 13)] (.r (.s [(0,.lp zi2 3 4)] (.z (.ret false (.t []) (rnN 0 18 19 20 21 3)))) (.s [(0,.lp zi3 3 1)] (.z .no)))) (.s [(0,.lp zi1 2 1)] (.z .no)))) (.s [(0,.lp ziZ 1 1)] (.z .no)))) (.s [(0,.lp ziX 0 1)] (.z .no)))))
theorem zmw {w0:World} (su:(List (List UInt8×Sb))) (pt:Vec) (mv:(List Mov)) (dn:Int) (c:Str) (hmv:mv.length≤40) (hc1:c.2.2.1.length≤1000) (hc2:c.2.2.2.length=c.2.2.1.length) (s':Rn) (hr:offS (pt,mv,dn,some c)=.ok s'):FG w0 57 [] su (pt,mv,dn,some c) c s' (.t [])∧RF w0 57 [] su (pt,mv,dn,some c) s' (.t []):=by
 refine tfn w0 57 ⟨[LF (.p 900 0)],(rnS 0 1 2 3 4 0 5 6 7 8 1 2),[],0,0⟩ ⟨9,[sI c.2.1,sI c.1.2.2,sI c.1.2.1,sI c.1.1,sI dn,sI pt.2.2,sI pt.2.1,sI pt.1,.q (pSu su)],[pG cM mv,pG cV c.2.2.1,pG cI c.2.2.2],[]⟩ zhT (by kernel_rfl) ?_
 refine rx [] [] [] (fun t u w=>⟨ziv (by kernel_rfl),trivial⟩) ?_
 obtain ⟨v1,e1⟩:=LX ((c.2.2.1.length:Int))
 refine rx [sI v1] [] [] (fun t u w=>⟨zdV (c:=cV) (by kernel_rfl) (fun _=>rfl) (by decide) rfl (za (by rw [e1];rfl)),trivial⟩) ?_
 intro v2 e2
 refine rx [.ls 3 cV kV c.2.2.1] [] [] (fun t u w hF=>zP (c:=cV) (i:=4) (ls:=[.h 5,.h 6,.h 7,.h 8,.gr 903,.gr 904]) hF rfl (by decide) rfl (fun _=>rfl) (by decide) qy rfl rfl) ?_
 refine rx [.ls 1 cI kIc c.2.2.2] [] [] (fun t u w hF=>zP (c:=cI) (i:=5) (ls:=[.h 5,.h 6,.h 7,.h 8,.h 11,.gr 904]) hF rfl (by decide) rfl (fun _=>rfl) (by decide) zR rfl rfl) ?_
 refine ai (fun h3=>?_) fun h3=>?_
 ·
  intro hc
  have hq:s'=(pt,mv,dn,none):=by
   (unfold offS at hr;dsimp only at hr;have hn:c.2.2.1=[]:=(by have hz:=e1;have hb:=e2.trans h3;have hb:=eq_of_beq hb;exact List.eq_nil_of_length_eq_zero (by omega));rw [if_pos hn] at hr;injection hr with hr;rw [← hr])
  rw [hq]
  exact ⟨fg_of (su:=su) (s:=(pt,mv,dn,some c)) (c:=c) (s':=(pt,mv,dn,none)) (hc) ⟨rfl,rfl,rfl,rfl,rfl,rfl⟩ ⟨rfl,rfl,rfl,rfl,rfl,rfl⟩ ⟨rfl,rfl,rfl,rfl,rfl,rfl⟩ rfl rfl rfl rfl,zpw (su:=su) (s:=(pt,mv,dn,some c)) (c:=c) (s':=(pt,mv,dn,none)) (hc) rfl rfl ⟨rfl,rfl,rfl,rfl,rfl,rfl⟩ ⟨rfl,rfl,rfl,rfl,rfl,rfl⟩ ⟨rfl,rfl,rfl,rfl,rfl,rfl⟩ rfl rfl rfl rfl⟩
 ·
  obtain ⟨v4,e4⟩:=LX (zL (c.1,c.2.1,c.2.2.1,c.2.2.2))
  obtain ⟨v5,e5⟩:=LX (waysL c.1 c.2.2.1)
  have s6:c.2.2.1≠[]:=by (intro hn;have hb:=e2.trans h3;have hb:=ne_of_beq_false hb;have hz:=e1;rw [hn] at hz;exact hb hz.symm)
  have s7:c.2.2.1.length≤1000:=by omega
  refine rx [.ls 3 cV kV v4,.ls 3 cV kV v5] [] [] (fun t u w=>⟨b_con (pan:=false) (zjq c.1 c.2.1 c.2.2.1 c.2.2.2 v4 v5 e4 e5 s6 s7),trivial⟩) ?_
  by_cases c5:backL v5=false
  ·
   refine Or.inl ?_
   refine rx [] [] [] (zlz su pt mv dn c v1 v2 v4 v5 h3   (by have hl5:v5.length=c.2.2.1.length:=(by rw [← e5];exact zo);have hl4:v4.length=c.2.2.1.length+1:=(by rw [← e4];exact zl);have hp:=List.length_pos_iff.2 s6;omega) (by have hl5:v5.length=c.2.2.1.length:=(by rw [← e5];exact zo);have hl4:v4.length=c.2.2.1.length+1:=(by rw [← e4];exact zl);have hp:=List.length_pos_iff.2 s6;omega) c5) ?_
   intro v8 e8
   by_cases c9:turnL v4 v5=false
   ·
    refine Or.inl ?_
    refine rx [] [] [] (zlB su pt mv dn c v1 v2 v4 v5 v8 h3   e8 (by have hl5:v5.length=c.2.2.1.length:=(by rw [← e5];exact zo);have hl4:v4.length=c.2.2.1.length+1:=(by rw [← e4];exact zl);have hp:=List.length_pos_iff.2 s6;omega) (by have hl5:v5.length=c.2.2.1.length:=(by rw [← e5];exact zo);have hl4:v4.length=c.2.2.1.length+1:=(by rw [← e4];exact zl);have hp:=List.length_pos_iff.2 s6;omega) c9) ?_
    intro v9 e9
    by_cases c14:v4.all inV=true
    ·
     refine Or.inl ?_
     refine rx [] [] [] (zlD su pt mv dn c v1 v2 v4 v5 v8 v9 h3   e9 (by have hl5:v5.length=c.2.2.1.length:=(by rw [← e5];exact zo);have hl4:v4.length=c.2.2.1.length+1:=(by rw [← e4];exact zl);have hp:=List.length_pos_iff.2 s6;omega) c14) ?_
     intro v10 e10
     by_cases c20:isOk (addsL c.2.2.2 0 v4 (c.1,mv,dn,none))=true
     ·
      refine Or.inl ?_
      obtain ⟨pt2,dn2,mv2,hO_of4A⟩:∃(pt2:Vec) (dn2:Int) (mv2:(List Mov)),addsL c.2.2.2 0 v4 (c.1,mv,dn,none)=.ok (pt2,mv2,dn2,none):=(by cases h:addsL c.2.2.2 0 v4 (c.1,mv,dn,none) with | ok r=>exact ⟨r.1,r.2.2.1,r.2.1,congrArg _ (zdq (zbK rfl h))⟩ | error e=>rw [h] at c20;cases c20)
      refine rx [sI pt2.1,sI pt2.2.1,sI pt2.2.2,sI dn2] [pG cM mv2] [] (zlF su pt mv dn c v1 v2 v4 v5 v8 v9 v10 h3 pt2 dn2 mv2  e10 (by have hl5:v5.length=c.2.2.1.length:=(by rw [← e5];exact zo);have hl4:v4.length=c.2.2.1.length+1:=(by rw [← e4];exact zl);have hp:=List.length_pos_iff.2 s6;omega) (by have hl5:v5.length=c.2.2.1.length:=(by rw [← e5];exact zo);have hl4:v4.length=c.2.2.1.length+1:=(by rw [← e4];exact zl);have hp:=List.length_pos_iff.2 s6;omega) (by have hl5:v5.length=c.2.2.1.length:=(by rw [← e5];exact zo);have hl4:v4.length=c.2.2.1.length+1:=(by rw [← e4];exact zl);have hp:=List.length_pos_iff.2 s6;omega) hmv hO_of4A) ?_
      intro hc
      have hq:s'=(pt2,mv2,dn2,none):=by
       (unfold offS at hr;dsimp only at hr;rw [if_neg s6,e5,show zL c=v4 from e4] at hr;rw [c5] at hr;simp only [Bool.false_eq_true,if_false] at hr;rw [c9] at hr;simp only [Bool.false_eq_true,if_false] at hr;rw [if_pos c14] at hr;rw [hO_of4A] at hr;injection hr with hr;exact hr.symm)
      rw [hq]
      exact ⟨fg_of (su:=su) (s:=(pt,mv,dn,some c)) (c:=c) (s':=(pt2,mv2,dn2,none)) (hc) ⟨rfl,rfl,rfl,rfl,rfl,rfl⟩ ⟨rfl,rfl,rfl,rfl,rfl,rfl⟩ ⟨rfl,rfl,rfl,rfl,rfl,rfl⟩ rfl rfl rfl rfl,zpw (su:=su) (s:=(pt,mv,dn,some c)) (c:=c) (s':=(pt2,mv2,dn2,none)) (hc) rfl rfl ⟨rfl,rfl,rfl,rfl,rfl,rfl⟩ ⟨rfl,rfl,rfl,rfl,rfl,rfl⟩ ⟨rfl,rfl,rfl,rfl,rfl,rfl⟩ rfl rfl rfl rfl⟩
     ·
      refine Or.inr ?_
      obtain ⟨er,hO_of4B⟩:∃(er:Int),addsL c.2.2.2 0 v4 (c.1,mv,dn,none)=.error er:=(by cases h:addsL c.2.2.2 0 v4 (c.1,mv,dn,none) with | ok r=>rw [h] at c20;exact absurd rfl c20 | error e=>exact ⟨e,rfl⟩)
      refine rx [.v (.iface 37 (.int .i64 er))] [] [] (zlG su pt mv dn c v1 v2 v4 v5 v8 v9 v10 h3 er  e10 (by have hl5:v5.length=c.2.2.1.length:=(by rw [← e5];exact zo);have hl4:v4.length=c.2.2.1.length+1:=(by rw [← e4];exact zl);have hp:=List.length_pos_iff.2 s6;omega) (by have hl5:v5.length=c.2.2.1.length:=(by rw [← e5];exact zo);have hl4:v4.length=c.2.2.1.length+1:=(by rw [← e4];exact zl);have hp:=List.length_pos_iff.2 s6;omega) (by have hl5:v5.length=c.2.2.1.length:=(by rw [← e5];exact zo);have hl4:v4.length=c.2.2.1.length+1:=(by rw [← e4];exact zl);have hp:=List.length_pos_iff.2 s6;omega) hmv hO_of4B) ?_
      exfalso
      (unfold offS at hr;dsimp only at hr;rw [if_neg s6,e5,show zL c=v4 from e4] at hr;rw [c5] at hr;simp only [Bool.false_eq_true,if_false] at hr;rw [c9] at hr;simp only [Bool.false_eq_true,if_false] at hr;rw [if_pos c14] at hr;rw [hO_of4B] at hr;cases hr)
    ·
     refine Or.inr ?_
     obtain ⟨er,hO_of3B⟩:∃(er:Int),(3:Int)=er:=⟨_,rfl⟩
     refine rx [.v (.iface 37 (.int .i64 er))] [] [] (zlE su pt mv dn c v1 v2 v4 v5 v8 v9 h3 er  e9 (by have hl5:v5.length=c.2.2.1.length:=(by rw [← e5];exact zo);have hl4:v4.length=c.2.2.1.length+1:=(by rw [← e4];exact zl);have hp:=List.length_pos_iff.2 s6;omega) (by simpa using c14) hO_of3B) ?_
     exfalso
     (unfold offS at hr;dsimp only at hr;rw [if_neg s6,e5,show zL c=v4 from e4] at hr;rw [c5] at hr;simp only [Bool.false_eq_true,if_false] at hr;rw [c9] at hr;simp only [Bool.false_eq_true,if_false] at hr;rw [if_neg c14] at hr;cases hr)
   ·
    refine Or.inr ?_
    obtain ⟨er,hO_of2B⟩:∃(er:Int),(17:Int)=er:=⟨_,rfl⟩
    refine rx [.v (.iface 37 (.int .i64 er))] [] [] (zlC su pt mv dn c v1 v2 v4 v5 v8 h3 er  e8 (by have hl5:v5.length=c.2.2.1.length:=(by rw [← e5];exact zo);have hl4:v4.length=c.2.2.1.length+1:=(by rw [← e4];exact zl);have hp:=List.length_pos_iff.2 s6;omega) (by have hl5:v5.length=c.2.2.1.length:=(by rw [← e5];exact zo);have hl4:v4.length=c.2.2.1.length+1:=(by rw [← e4];exact zl);have hp:=List.length_pos_iff.2 s6;omega) (by simpa using c9) hO_of2B) ?_
    exfalso
    (unfold offS at hr;dsimp only at hr;rw [if_neg s6,e5,show zL c=v4 from e4] at hr;rw [c5] at hr;simp only [Bool.false_eq_true,if_false] at hr;rw [if_pos (by simpa using c9)] at hr;cases hr)
  ·
   refine Or.inr ?_
   obtain ⟨er,hO_of1B⟩:∃(er:Int),(17:Int)=er:=⟨_,rfl⟩
   refine rx [.v (.iface 37 (.int .i64 er))] [] [] (zlA su pt mv dn c v1 v2 v4 v5 h3 er  (by have hl5:v5.length=c.2.2.1.length:=(by rw [← e5];exact zo);have hl4:v4.length=c.2.2.1.length+1:=(by rw [← e4];exact zl);have hp:=List.length_pos_iff.2 s6;omega) (by have hl5:v5.length=c.2.2.1.length:=(by rw [← e5];exact zo);have hl4:v4.length=c.2.2.1.length+1:=(by rw [← e4];exact zl);have hp:=List.length_pos_iff.2 s6;omega) (by simpa using c5) hO_of1B) ?_
   exfalso
   (unfold offS at hr;dsimp only at hr;rw [if_neg s6,e5,show zL c=v4 from e4] at hr;rw [if_pos (by simpa using c5)] at hr;cases hr)
def zgo:Tr:=.s [(0,.raw [(1000010,.bin .eql 106 (LF (.p 902 0)) (LF (.k (.pointer none))) (LF (.k (.bool false))))] 0),(0,.raw [(1000016,.op (.len [35] 3) [LF (.gr 903)] [.gl 903 26 3 1] 9)] 1),(17,.bin .eql 3 9 (kI 0)),(0,.gh ⟨2,[.gl 903 26 3 1,.bx 902 141 [.h 5,.h 6,.h 7,.h 8,.gr 903,.gr 904]],[.bx 902 141 [.h 5,.h 6,.h 7,.h 8,.h 11,.gr 904]],[903]⟩ 1),(0,.gh ⟨2,[.gl 904 3 1 2,.bx 902 141 [.h 5,.h 6,.h 7,.h 8,.h 11,.gr 904]],[.bx 902 141 [.h 5,.h 6,.h 7,.h 8,.h 11,.h 12]],[904]⟩ 1)] (.b 10 (.z .no) (.s [(0,.raw [(1000020,.call ⟨83,[.o (.c (.p 902 0))],[.bx 902 141 [.h 5,.h 6,.h 7,.h 8,.h 11,.h 12]],.t [.c (.h 13),.c (.h 14)],[.bx 902 141 [.h 5,.h 6,.h 7,.h 8,.h 11,.h 12]]⟩)] 2)] (.r (.s [(0,.lp ziW 0 0),(1028,.ln 35 3 14)] (.r (.s [(0,.lp ziY 1 0),(2031,.ln 35 3 13)] (.r (.s [(0,.lp zi0 2 0),(3042,.ln 35 3 13)] (.r (.s [(0,.lp zi2 3 4)] (.z .no)) (.s [(0,.lp zi3 3 1)] (.z (.ret true (18) []))))) (.s [(0,.lp zi1 2 1)] (.z (.ret true (17) []))))) (.s [(0,.lp ziZ 1 1)] (.z (.ret true (16) []))))) (.s [(0,.lp ziX 0 1)] (.z (.ret true (15) []))))))
theorem zjY {w0:World} (su:(List (List UInt8×Sb))) (pt:Vec) (mv:(List Mov)) (dn:Int) (c:Str) (hmv:mv.length≤40) (hc1:c.2.2.1.length≤1000) (hc2:c.2.2.2.length=c.2.2.1.length) (k:Int) (hr:offS (pt,mv,dn,some c)=.error k):RP w0 57 [] su (pt,mv,dn,some c) k:=by
 refine tfn w0 57 ⟨[LF (.p 900 0)],(rnS 0 1 2 3 4 0 5 6 7 8 1 2),[],0,0⟩ ⟨9,[sI c.2.1,sI c.1.2.2,sI c.1.2.1,sI c.1.1,sI dn,sI pt.2.2,sI pt.2.1,sI pt.1,.q (pSu su)],[pG cM mv,pG cV c.2.2.1,pG cI c.2.2.2],[]⟩ zgo (by kernel_rfl) ?_
 refine rx [] [] [] (fun t u w=>⟨ziv (by kernel_rfl),trivial⟩) ?_
 obtain ⟨v1,e1⟩:=LX ((c.2.2.1.length:Int))
 refine rx [sI v1] [] [] (fun t u w=>⟨zdV (c:=cV) (by kernel_rfl) (fun _=>rfl) (by decide) rfl (za (by rw [e1];rfl)),trivial⟩) ?_
 intro v2 e2
 refine rx [.ls 3 cV kV c.2.2.1] [] [] (fun t u w hF=>zP (c:=cV) (i:=4) (ls:=[.h 5,.h 6,.h 7,.h 8,.gr 903,.gr 904]) hF rfl (by decide) rfl (fun _=>rfl) (by decide) qy rfl rfl) ?_
 refine rx [.ls 1 cI kIc c.2.2.2] [] [] (fun t u w hF=>zP (c:=cI) (i:=5) (ls:=[.h 5,.h 6,.h 7,.h 8,.h 11,.gr 904]) hF rfl (by decide) rfl (fun _=>rfl) (by decide) zR rfl rfl) ?_
 refine ai (fun h3=>?_) fun h3=>?_
 ·
  exfalso
  (unfold offS at hr;dsimp only at hr;have hn:c.2.2.1=[]:=(by have hz:=e1;have hb:=e2.trans h3;have hb:=eq_of_beq hb;exact List.eq_nil_of_length_eq_zero (by omega));rw [if_pos hn] at hr;cases hr)
 ·
  obtain ⟨v4,e4⟩:=LX (zL (c.1,c.2.1,c.2.2.1,c.2.2.2))
  obtain ⟨v5,e5⟩:=LX (waysL c.1 c.2.2.1)
  have s6:c.2.2.1≠[]:=by (intro hn;have hb:=e2.trans h3;have hb:=ne_of_beq_false hb;have hz:=e1;rw [hn] at hz;exact hb hz.symm)
  have s7:c.2.2.1.length≤1000:=by omega
  refine rx [.ls 3 cV kV v4,.ls 3 cV kV v5] [] [] (fun t u w=>⟨b_con (pan:=false) (zjq c.1 c.2.1 c.2.2.1 c.2.2.2 v4 v5 e4 e5 s6 s7),trivial⟩) ?_
  by_cases c5:backL v5=false
  ·
   refine Or.inl ?_
   refine rx [] [] [] (zlz su pt mv dn c v1 v2 v4 v5 h3   (by have hl5:v5.length=c.2.2.1.length:=(by rw [← e5];exact zo);have hl4:v4.length=c.2.2.1.length+1:=(by rw [← e4];exact zl);have hp:=List.length_pos_iff.2 s6;omega) (by have hl5:v5.length=c.2.2.1.length:=(by rw [← e5];exact zo);have hl4:v4.length=c.2.2.1.length+1:=(by rw [← e4];exact zl);have hp:=List.length_pos_iff.2 s6;omega) c5) ?_
   intro v8 e8
   by_cases c9:turnL v4 v5=false
   ·
    refine Or.inl ?_
    refine rx [] [] [] (zlB su pt mv dn c v1 v2 v4 v5 v8 h3   e8 (by have hl5:v5.length=c.2.2.1.length:=(by rw [← e5];exact zo);have hl4:v4.length=c.2.2.1.length+1:=(by rw [← e4];exact zl);have hp:=List.length_pos_iff.2 s6;omega) (by have hl5:v5.length=c.2.2.1.length:=(by rw [← e5];exact zo);have hl4:v4.length=c.2.2.1.length+1:=(by rw [← e4];exact zl);have hp:=List.length_pos_iff.2 s6;omega) c9) ?_
    intro v9 e9
    by_cases c14:v4.all inV=true
    ·
     refine Or.inl ?_
     refine rx [] [] [] (zlD su pt mv dn c v1 v2 v4 v5 v8 v9 h3   e9 (by have hl5:v5.length=c.2.2.1.length:=(by rw [← e5];exact zo);have hl4:v4.length=c.2.2.1.length+1:=(by rw [← e4];exact zl);have hp:=List.length_pos_iff.2 s6;omega) c14) ?_
     intro v10 e10
     by_cases c20:isOk (addsL c.2.2.2 0 v4 (c.1,mv,dn,none))=true
     ·
      refine Or.inl ?_
      obtain ⟨pt2,dn2,mv2,hO_of4A⟩:∃(pt2:Vec) (dn2:Int) (mv2:(List Mov)),addsL c.2.2.2 0 v4 (c.1,mv,dn,none)=.ok (pt2,mv2,dn2,none):=(by cases h:addsL c.2.2.2 0 v4 (c.1,mv,dn,none) with | ok r=>exact ⟨r.1,r.2.2.1,r.2.1,congrArg _ (zdq (zbK rfl h))⟩ | error e=>rw [h] at c20;cases c20)
      refine rx [sI pt2.1,sI pt2.2.1,sI pt2.2.2,sI dn2] [pG cM mv2] [] (zlF su pt mv dn c v1 v2 v4 v5 v8 v9 v10 h3 pt2 dn2 mv2  e10 (by have hl5:v5.length=c.2.2.1.length:=(by rw [← e5];exact zo);have hl4:v4.length=c.2.2.1.length+1:=(by rw [← e4];exact zl);have hp:=List.length_pos_iff.2 s6;omega) (by have hl5:v5.length=c.2.2.1.length:=(by rw [← e5];exact zo);have hl4:v4.length=c.2.2.1.length+1:=(by rw [← e4];exact zl);have hp:=List.length_pos_iff.2 s6;omega) (by have hl5:v5.length=c.2.2.1.length:=(by rw [← e5];exact zo);have hl4:v4.length=c.2.2.1.length+1:=(by rw [← e4];exact zl);have hp:=List.length_pos_iff.2 s6;omega) hmv hO_of4A) ?_
      exfalso
      (unfold offS at hr;dsimp only at hr;rw [if_neg s6,e5,show zL c=v4 from e4] at hr;rw [c5] at hr;simp only [Bool.false_eq_true,if_false] at hr;rw [c9] at hr;simp only [Bool.false_eq_true,if_false] at hr;rw [if_pos c14] at hr;rw [hO_of4A] at hr;cases hr)
     ·
      refine Or.inr ?_
      obtain ⟨er,hO_of4B⟩:∃(er:Int),addsL c.2.2.2 0 v4 (c.1,mv,dn,none)=.error er:=(by cases h:addsL c.2.2.2 0 v4 (c.1,mv,dn,none) with | ok r=>rw [h] at c20;exact absurd rfl c20 | error e=>exact ⟨e,rfl⟩)
      refine rx [.v (.iface 37 (.int .i64 er))] [] [] (zlG su pt mv dn c v1 v2 v4 v5 v8 v9 v10 h3 er  e10 (by have hl5:v5.length=c.2.2.1.length:=(by rw [← e5];exact zo);have hl4:v4.length=c.2.2.1.length+1:=(by rw [← e4];exact zl);have hp:=List.length_pos_iff.2 s6;omega) (by have hl5:v5.length=c.2.2.1.length:=(by rw [← e5];exact zo);have hl4:v4.length=c.2.2.1.length+1:=(by rw [← e4];exact zl);have hp:=List.length_pos_iff.2 s6;omega) (by have hl5:v5.length=c.2.2.1.length:=(by rw [← e5];exact zo);have hl4:v4.length=c.2.2.1.length+1:=(by rw [← e4];exact zl);have hp:=List.length_pos_iff.2 s6;omega) hmv hO_of4B) ?_
      intro hc
      have hq:k=er:=by
       (unfold offS at hr;dsimp only at hr;rw [if_neg s6,e5,show zL c=v4 from e4] at hr;rw [c5] at hr;simp only [Bool.false_eq_true,if_false] at hr;rw [c9] at hr;simp only [Bool.false_eq_true,if_false] at hr;rw [if_pos c14] at hr;rw [hO_of4B] at hr;injection hr with hr;exact hr.symm)
      rw [hq]
      exact zaP (su:=su) (s:=(pt,mv,dn,some c)) (c:=c) (hc) rfl ⟨rfl,rfl,rfl,rfl,rfl,rfl⟩ ⟨rfl,rfl,rfl,rfl,rfl,rfl⟩ rfl rfl rfl
    ·
     refine Or.inr ?_
     obtain ⟨er,hO_of3B⟩:∃(er:Int),(3:Int)=er:=⟨_,rfl⟩
     refine rx [.v (.iface 37 (.int .i64 er))] [] [] (zlE su pt mv dn c v1 v2 v4 v5 v8 v9 h3 er  e9 (by have hl5:v5.length=c.2.2.1.length:=(by rw [← e5];exact zo);have hl4:v4.length=c.2.2.1.length+1:=(by rw [← e4];exact zl);have hp:=List.length_pos_iff.2 s6;omega) (by simpa using c14) hO_of3B) ?_
     intro hc
     have hq:k=er:=by
      (unfold offS at hr;dsimp only at hr;rw [if_neg s6,e5,show zL c=v4 from e4] at hr;rw [c5] at hr;simp only [Bool.false_eq_true,if_false] at hr;rw [c9] at hr;simp only [Bool.false_eq_true,if_false] at hr;rw [if_neg c14] at hr;injection hr with hr;exact hr.symm.trans hO_of3B)
     rw [hq]
     exact zaP (su:=su) (s:=(pt,mv,dn,some c)) (c:=c) (hc) rfl ⟨rfl,rfl,rfl,rfl,rfl,rfl⟩ ⟨rfl,rfl,rfl,rfl,rfl,rfl⟩ rfl rfl rfl
   ·
    refine Or.inr ?_
    obtain ⟨er,hO_of2B⟩:∃(er:Int),(17:Int)=er:=⟨_,rfl⟩
    refine rx [.v (.iface 37 (.int .i64 er))] [] [] (zlC su pt mv dn c v1 v2 v4 v5 v8 h3 er  e8 (by have hl5:v5.length=c.2.2.1.length:=(by rw [← e5];exact zo);have hl4:v4.length=c.2.2.1.length+1:=(by rw [← e4];exact zl);have hp:=List.length_pos_iff.2 s6;omega) (by have hl5:v5.length=c.2.2.1.length:=(by rw [← e5];exact zo);have hl4:v4.length=c.2.2.1.length+1:=(by rw [← e4];exact zl);have hp:=List.length_pos_iff.2 s6;omega) (by simpa using c9) hO_of2B) ?_
    intro hc
    have hq:k=er:=by
     (unfold offS at hr;dsimp only at hr;rw [if_neg s6,e5,show zL c=v4 from e4] at hr;rw [c5] at hr;simp only [Bool.false_eq_true,if_false] at hr;rw [if_pos (by simpa using c9)] at hr;injection hr with hr;exact hr.symm.trans hO_of2B)
    rw [hq]
    exact zaP (su:=su) (s:=(pt,mv,dn,some c)) (c:=c) (hc) rfl ⟨rfl,rfl,rfl,rfl,rfl,rfl⟩ ⟨rfl,rfl,rfl,rfl,rfl,rfl⟩ rfl rfl rfl
  ·
   refine Or.inr ?_
   obtain ⟨er,hO_of1B⟩:∃(er:Int),(17:Int)=er:=⟨_,rfl⟩
   refine rx [.v (.iface 37 (.int .i64 er))] [] [] (zlA su pt mv dn c v1 v2 v4 v5 h3 er  (by have hl5:v5.length=c.2.2.1.length:=(by rw [← e5];exact zo);have hl4:v4.length=c.2.2.1.length+1:=(by rw [← e4];exact zl);have hp:=List.length_pos_iff.2 s6;omega) (by have hl5:v5.length=c.2.2.1.length:=(by rw [← e5];exact zo);have hl4:v4.length=c.2.2.1.length+1:=(by rw [← e4];exact zl);have hp:=List.length_pos_iff.2 s6;omega) (by simpa using c5) hO_of1B) ?_
   intro hc
   have hq:k=er:=by
    (unfold offS at hr;dsimp only at hr;rw [if_neg s6,e5,show zL c=v4 from e4] at hr;rw [if_pos (by simpa using c5)] at hr;injection hr with hr;exact hr.symm.trans hO_of1B)
   rw [hq]
   exact zaP (su:=su) (s:=(pt,mv,dn,some c)) (c:=c) (hc) rfl ⟨rfl,rfl,rfl,rfl,rfl,rfl⟩ ⟨rfl,rfl,rfl,rfl,rfl,rfl⟩ rfl rfl rfl
def zhS:Tr:=.s [(0,.raw [(1000010,.bin .eql 106 (LF (.k (.pointer none))) (LF (.k (.pointer none))) (LF (.k (.bool true))))] 0)] (.z (.ret false (.t []) (rnN 0 1 2 3 4 0)))
theorem zmv {w0:World} (su:(List (List UInt8×Sb))) (pt:Vec) (mv:(List Mov)) (dn:Int) (s':Rn) (hr:offS (pt,mv,dn,none)=.ok s'):FN w0 57 [] su (pt,mv,dn,none) s' (.t []):=by
 refine tfn w0 57 ⟨[LF (.p 900 0)],(rnN 0 1 2 3 4 0),[],0,0⟩ ⟨5,[sI dn,sI pt.2.2,sI pt.2.1,sI pt.1,.q (pSu su)],[pG cM mv],[]⟩ zhS (by kernel_rfl) ?_
 refine rx [] [] [] (fun t u w=>⟨zgQ (by kernel_rfl),trivial⟩) ?_
 intro hc
 have hq:s'=(pt,mv,dn,none):=by
  (unfold offS at hr;injection hr with hr;rw [← hr])
 rw [hq]
 exact fn_of (su:=su) (s:=(pt,mv,dn,none)) (s':=(pt,mv,dn,none)) (hc) ⟨rfl,rfl,rfl,rfl,rfl,rfl⟩ ⟨rfl,rfl,rfl,rfl,rfl,rfl⟩ rfl rfl rfl rfl
theorem znO {s s':Rn} (h:offS s=.ok s'):s'.2.2.2=none:=by
 obtain ⟨pt,mv,dn,c⟩:=s
 cases c with
 | none=>injection h with h;rw [← h]
 | some c =>
  unfold offS at h
  dsimp only at h
  split at h
  ·injection h with h;rw [← h]
  ·split at h
   ·cases h
   ·split at h
    ·cases h
    ·split at h
     ·exact zbK rfl h
     ·cases h
theorem zfb {w0:World} (su:List (List UInt8×Sb)) (s s':Rn) (hmv:s.2.1.length≤40) (hc:∀c,s.2.2.2=some c→c.2.2.1.length≤1000∧c.2.2.2.length=c.2.2.1.length) (h:offS s=.ok s'):RF w0 57 [] su s s' (.t []):=by
 obtain ⟨pt,mv,dn,c⟩:=s
 cases c with
 | none=>exact zeZ rfl (znO h) (zmv su pt mv dn s' h)
 | some c=>exact (zmw su pt mv dn c hmv (hc c rfl).1 (hc c rfl).2 s' h).2
theorem zfc {w0:World} (su:List (List UInt8×Sb)) (s:Rn) (k:Int) (hmv:s.2.1.length≤40) (hc:∀c,s.2.2.2=some c→c.2.2.1.length≤1000∧c.2.2.2.length=c.2.2.1.length) (h:offS s=.error k):RP w0 57 [] su s k:=by
 obtain ⟨pt,mv,dn,c⟩:=s
 cases c with
 | none=>cases h
 | some c=>exact zjY su pt mv dn c hmv (hc c rfl).1 (hc c rfl).2 k h
def zgw:Tr:=.s [(3,.bin .eql 3 6 (kI 0)),(0,.fb 10 true)] (.r (.s [(0,.raw [(1000005,.call ⟨57,[LF (.p 900 0)],rnA 0 1 2 3 4 0 0,.t [],rnA 0 11 12 13 14 1 1⟩)] 4)] (.z (.ret false (.t []) (rnA 0 11 12 13 14 1 1)))) (.s [(0,.raw [(1000005,.pan ⟨57,[LF (.p 900 0)],rnA 0 1 2 3 4 0 0,11,[]⟩)] 1)] (.z .no)))
theorem zj5 {w0:World} (su:(List (List UInt8×Sb))) (pt:Vec) (mv:(List Mov)) (dn:Int) (c:(Option Str)) (x:Stm) (l:(List Int)) (hmv:mv.length≤40) (hN:x.2.1=0) (hc:∀d,c=some d→d.2.2.1.length≤1000∧d.2.2.2.length=d.2.2.1.length) (s':Rn) (hr:turnS x.2.1 l (pt,mv,dn,c)=.ok s'):RF w0 112 [.o (.g [pI x.1,pI x.2.1,pS x.2.2.1,pLs cE x.2.2.2]),.o (.c (pLs cI l))] su (pt,mv,dn,c) s' (.t []):=by
 refine tfn w0 112 ⟨[LF (.p 900 0),.o (.g [5,6,7,8]),9],(rnA 0 1 2 3 4 0 0),[],0,0⟩ ⟨10,[.ls 1 cI kIc l,.ls 3 cE kE x.2.2.2,sS x.2.2.1,sI x.2.1,sI x.1,sI dn,sI pt.2.2,sI pt.2.1,sI pt.1,.q (pSu su)],[pG cM mv],[oStr w0 c]⟩ zgw (by kernel_rfl) ?_
 intro v1 e1
 have s2:v1=true:=by (rw [← e1];simpa using hN)
 refine ai s2 ?_
 have s3:mv.length≤40:=by omega
 have s4:∀d,c=some d→d.2.2.1.length≤1000∧d.2.2.2.length=d.2.2.1.length:=by exact hc
 cases h5:isOk (offS (pt,mv,dn,c)) with
 | true =>
  refine Or.inl ?_
  obtain ⟨v6,e6⟩:=LX (okOf (offS (pt,mv,dn,c)))
  refine rx [sI v6.1.1,sI v6.1.2.1,sI v6.1.2.2,sI v6.2.2.1] [pG cM v6.2.1] [oStr w0 v6.2.2.2] (fun t u w=>⟨zfb su  (pt,mv,dn,c) v6 s3 s4 (ok_of h5 e6) ⟨rfl,rfl,rfl,rfl,rfl,rfl,rfl⟩ ⟨rfl,rfl,rfl,rfl,rfl,rfl,rfl⟩ rfl rfl rfl rfl,trivial⟩) ?_
  intro hc
  have hq:s'=(v6.1,v6.2.1,v6.2.2.1,v6.2.2.2):=by
   (unfold turnS at hr;rw [if_pos hN] at hr;rw [ok_of h5 e6] at hr;injection hr with hr;rw [← hr])
  rw [hq]
  exact rf_of (su:=su) (s:=(pt,mv,dn,c)) (s':=(v6.1,v6.2.1,v6.2.2.1,v6.2.2.2)) (hc) ⟨rfl,rfl,rfl,rfl,rfl,rfl,rfl⟩ ⟨rfl,rfl,rfl,rfl,rfl,rfl,rfl⟩ rfl rfl rfl rfl
 | false =>
  refine Or.inr ?_
  obtain ⟨v6,e6⟩:=LX (errOf (offS (pt,mv,dn,c)))
  refine rx [.v (.iface 37 (.int .i64 v6))] [] [] (fun t u w=>⟨zfc su  (pt,mv,dn,c) v6 s3 s4 (zn h5 e6) ⟨rfl,rfl,rfl,rfl,rfl,rfl,rfl⟩ rfl rfl rfl,trivial⟩) ?_
  exfalso
  (unfold turnS at hr;rw [if_pos hN] at hr;rw [zn h5 e6] at hr;cases hr)
def zfq:Tr:=.s [(3,.bin .eql 3 6 (kI 0)),(0,.fb 10 true)] (.r (.s [(0,.raw [(1000005,.call ⟨57,[LF (.p 900 0)],rnA 0 1 2 3 4 0 0,.t [],rnA 0 11 12 13 14 1 1⟩)] 4)] (.z .no)) (.s [(0,.raw [(1000005,.pan ⟨57,[LF (.p 900 0)],rnA 0 1 2 3 4 0 0,11,[]⟩)] 1)] (.z (.ret true (11) []))))
theorem zh2 {w0:World} (su:(List (List UInt8×Sb))) (pt:Vec) (mv:(List Mov)) (dn:Int) (c:(Option Str)) (x:Stm) (l:(List Int)) (hmv:mv.length≤40) (hN:x.2.1=0) (hc:∀d,c=some d→d.2.2.1.length≤1000∧d.2.2.2.length=d.2.2.1.length) (k:Int) (hr:turnS x.2.1 l (pt,mv,dn,c)=.error k):RP w0 112 [.o (.g [pI x.1,pI x.2.1,pS x.2.2.1,pLs cE x.2.2.2]),.o (.c (pLs cI l))] su (pt,mv,dn,c) k:=by
 refine tfn w0 112 ⟨[LF (.p 900 0),.o (.g [5,6,7,8]),9],(rnA 0 1 2 3 4 0 0),[],0,0⟩ ⟨10,[.ls 1 cI kIc l,.ls 3 cE kE x.2.2.2,sS x.2.2.1,sI x.2.1,sI x.1,sI dn,sI pt.2.2,sI pt.2.1,sI pt.1,.q (pSu su)],[pG cM mv],[oStr w0 c]⟩ zfq (by kernel_rfl) ?_
 intro v1 e1
 have s2:v1=true:=by (rw [← e1];simpa using hN)
 refine ai s2 ?_
 have s3:mv.length≤40:=by omega
 have s4:∀d,c=some d→d.2.2.1.length≤1000∧d.2.2.2.length=d.2.2.1.length:=by exact hc
 cases h5:isOk (offS (pt,mv,dn,c)) with
 | true =>
  refine Or.inl ?_
  obtain ⟨v6,e6⟩:=LX (okOf (offS (pt,mv,dn,c)))
  refine rx [sI v6.1.1,sI v6.1.2.1,sI v6.1.2.2,sI v6.2.2.1] [pG cM v6.2.1] [oStr w0 v6.2.2.2] (fun t u w=>⟨zfb su  (pt,mv,dn,c) v6 s3 s4 (ok_of h5 e6) ⟨rfl,rfl,rfl,rfl,rfl,rfl,rfl⟩ ⟨rfl,rfl,rfl,rfl,rfl,rfl,rfl⟩ rfl rfl rfl rfl,trivial⟩) ?_
  exfalso
  (unfold turnS at hr;rw [if_pos hN] at hr;rw [ok_of h5 e6] at hr;cases hr)
 | false =>
  refine Or.inr ?_
  obtain ⟨v6,e6⟩:=LX (errOf (offS (pt,mv,dn,c)))
  refine rx [.v (.iface 37 (.int .i64 v6))] [] [] (fun t u w=>⟨zfc su  (pt,mv,dn,c) v6 s3 s4 (zn h5 e6) ⟨rfl,rfl,rfl,rfl,rfl,rfl,rfl⟩ rfl rfl rfl,trivial⟩) ?_
  intro hc
  have hq:k=v6:=by
   (unfold turnS at hr;rw [if_pos hN] at hr;rw [zn h5 e6] at hr;injection hr with hr;exact hr.symm)
  rw [hq]
  exact rp_of (su:=su) (s:=(pt,mv,dn,c)) (hc) ⟨rfl,rfl,rfl,rfl,rfl,rfl,rfl⟩ rfl rfl rfl
def zgx:Tr:=.s [(0,.gh ⟨0,[.bx 900 108 [.h 0,.h 1,.h 2,.h 3,.gr 901,.h 4,.po 902],.hp [902,903,904] [] 0],[.bx 900 108 [.h 0,.h 1,.h 2,.h 3,.gr 901,.h 4,.k (.pointer none)],.gn 902,.gn 903,.gn 904],[]⟩ 0),(3,.bin .eql 3 6 (kI 0)),(0,.fb 10 false),(0,.raw [(1000008,.bin .neq 106 (LF (.k (.pointer none))) (LF (.k (.pointer none))) (LF (.k (.bool false))))] 0),(9,.call 55 [LF (kB false),LF (kI 17)] (.t [])),(11,.ia 24 3 1 9 (kI 0)),(12,.ld 3 0 11),(13,.bin .lss 3 12 (kI 1))] (.b 13 (.s [(0,.raw [(1000020,.pan ⟨55,[.o (.c (.k (.bool true))),.o (.c (.k (.int .i64 3)))],[],14,[]⟩)] 1)] (.z .no)) (.s [(16,.ia 24 3 1 9 (kI 0)),(17,.ld 3 0 14),(18,.bin .gtr 3 15 (kI 24))] (.b 16 (.s [(0,.raw [(1000020,.pan ⟨55,[16,.o (.c (.k (.int .i64 3)))],[],17,[]⟩)] 1)] (.z .no)) (.s [(20,.call 55 [16,LF (kI 3)] (.t [])),(27,.ia 24 3 1 9 (kI 0)),(28,.ld 3 0 17),(31,.bin .mul 3 (kI 2) 6),(32,.bin .sub 3 (kI 3) 19),(33,.bin .mul 3 18 20),(0,.raw [(1000035,.aln 902)] 0),(0,.gh ⟨5,[.bx 902 141 [.h 1,.h 2,.h 3,.h 21,.k (.slice none 0 0),.k (.slice none 0 0)],.gn 903],[.bx 902 141 [.h 1,.h 2,.h 3,.h 21,.gr 903,.k (.slice none 0 0)],.gl 903 26 3 1],[]⟩ 0),(0,.gh ⟨5,[.bx 902 141 [.h 1,.h 2,.h 3,.h 21,.gr 903,.k (.slice none 0 0)],.gn 904],[.bx 902 141 [.h 1,.h 2,.h 3,.h 21,.gr 903,.gr 904],.gl 904 3 1 2],[]⟩ 0),(0,.gh ⟨5,[.bx 900 108 [.h 0,.h 1,.h 2,.h 3,.gr 901,.h 4,.p 902 0],.bx 902 141 [.h 1,.h 2,.h 3,.h 21,.gr 903,.gr 904],.gl 903 26 3 1,.gl 904 3 1 2],[.bx 900 108 [.h 0,.h 1,.h 2,.h 3,.gr 901,.h 4,.po 902],.hp [902,903,904] [] 1],[]⟩ 0)] (.z (.ret false (.t []) (rnA 0 1 2 3 4 0 1)))))))
theorem zj6 {w0:World} (su:(List (List UInt8×Sb))) (pt:Vec) (mv:(List Mov)) (dn:Int) (x:Stm) (l:(List Int)) (hmv:mv.length≤40) (hN:x.2.1≠0) (hl:1≤l.length) (s':Rn) (hr:turnS x.2.1 l (pt,mv,dn,none)=.ok s'):RF w0 112 [.o (.g [pI x.1,pI x.2.1,pS x.2.2.1,pLs cE x.2.2.2]),.o (.c (pLs cI l))] su (pt,mv,dn,none) s' (.t []):=by
 refine tfn w0 112 ⟨[LF (.p 900 0),.o (.g [5,6,7,8]),9],(rnA 0 1 2 3 4 0 0),[],0,0⟩ ⟨10,[.ls 1 cI kIc l,.ls 3 cE kE x.2.2.2,sS x.2.2.1,sI x.2.1,sI x.1,sI dn,sI pt.2.2,sI pt.2.1,sI pt.1,.q (pSu su)],[pG cM mv],[oStr w0 none]⟩ zgx (by kernel_rfl) ?_
 refine rx [] [] [] (fun t u w _=>zd1 (w0:=w0) (ls:=[.h 0,.h 1,.h 2,.h 3,.gr 901,.h 4]) rfl) ?_
 intro v1 e1
 have s2:v1=false:=by (rw [← e1];simpa using hN)
 refine ai s2 ?_
 refine rx [] [] [] (fun t u w=>⟨zaZ (by kernel_rfl),trivial⟩) ?_
 have s3:(false && ((17:Int) != 0))=false:=by rfl
 refine cx (.t []) (zv false (17:Int) s3) rfl ?_
 refine ai (by exact ⟨0,l.getD 0 0,rfl,zZ (by omega)⟩) fun n4 x5 s6 s7=>?_
 intro v8 e8
 refine ai (fun h9=>?_) fun h9=>?_
 ·
  have s10:(true && ((3:Int) != 0))=true:=by rfl
  refine rx [.v (.iface 37 (.int .i64 (3:Int)))] [] [] (fun t u w=>⟨b_con (pan:=true) (zh true (3:Int) (3:Int) rfl s10),trivial⟩) ?_
  exfalso
  (have dh9:=LD e8 h9;unfold turnS at hr;rw [if_neg hN] at hr;simp only [Option.isSome_none,Bool.false_eq_true,if_false] at hr;have hx0:l.getD 0 0=x5:=zp (k:=0) s7 s6;rw [if_pos (by omega)] at hr;cases hr)
 ·
  refine ai (by exact ⟨0,l.getD 0 0,rfl,zZ (by omega)⟩) fun n10 x11 s12 s13=>?_
  intro v14 e14
  refine ai (fun h15=>?_) fun h15=>?_
  ·
   have s16:(v14 && ((3:Int) != 0))=true:=by (rw [h15];rfl)
   refine rx [.v (.iface 37 (.int .i64 (3:Int)))] [] [] (fun t u w=>⟨b_con (pan:=true) (zh v14 (3:Int) (3:Int) rfl s16),trivial⟩) ?_
   exfalso
   (have dh9:=LE e8 h9;have dh15:=LD e14 h15;unfold turnS at hr;rw [if_neg hN] at hr;simp only [Option.isSome_none,Bool.false_eq_true,if_false] at hr;have hx0:l.getD 0 0=x5:=zp (k:=0) s7 s6;have hx1:l.getD 0 0=x11:=zp (k:=0) s13 s12;rw [if_pos (by omega)] at hr;cases hr)
  ·
   have s16:(v14 && ((3:Int) != 0))=false:=by (rw [h15];rfl)
   refine cx (.t []) (zv v14 (3:Int) s16) rfl ?_
   refine ai (by exact ⟨0,l.getD 0 0,rfl,zZ (by omega)⟩) fun n17 x18 s19 s20=>?_
   intro v21 e21 v22 e22 v23 e23
   refine rx [] [] [] (fun t u w=>⟨trivial,trivial⟩) ?_
   refine rx [] [pG cV ([]:List Vec)] [] (fun t u w _=>zG (c:=cV) (i:=4) (ls:=[.h 1,.h 2,.h 3,.h 21,.k (.slice none 0 0),.k (.slice none 0 0)]) rfl rfl) ?_
   refine rx [] [pG cI ([]:List Int)] [] (fun t u w _=>zG (c:=cI) (i:=5) (ls:=[.h 1,.h 2,.h 3,.h 21,.gr 903,.k (.slice none 0 0)]) rfl rfl) ?_
   refine rx [] [] [oStr w0 (some (pt,v23,([]:List Vec),([]:List Int)))] (fun t u w _=>zcD (w0:=w0) (ls:=[.h 0,.h 1,.h 2,.h 3,.gr 901,.h 4]) (s:=(pt,v23,([]:List Vec),([]:List Int))) rfl rfl rfl rfl rfl rfl rfl) ?_
   intro hc
   have hq:s'=(pt,mv,dn,some (pt,v23,([]:List Vec),([]:List Int))):=by
    (have dh9:=LE e8 h9;have dh15:=LE e14 h15;unfold turnS at hr;rw [if_neg hN] at hr;simp only [Option.isSome_none,Bool.false_eq_true,if_false] at hr;have hx0:l.getD 0 0=x5:=zp (k:=0) s7 s6;have hx1:l.getD 0 0=x11:=zp (k:=0) s13 s12;have hx2:l.getD 0 0=x18:=zp (k:=0) s20 s19;rw [if_neg (by omega)] at hr;injection hr with hr;rw [← hr,← e23,← e22,← e21,← hx2])
   rw [hq]
   exact rf_of (su:=su) (s:=(pt,mv,dn,none)) (s':=(pt,mv,dn,some (pt,v23,([]:List Vec),([]:List Int)))) (hc) ⟨rfl,rfl,rfl,rfl,rfl,rfl,rfl⟩ ⟨rfl,rfl,rfl,rfl,rfl,rfl,rfl⟩ rfl rfl rfl rfl
def zfr:Tr:=.s [(0,.gh ⟨0,[.bx 900 108 [.h 0,.h 1,.h 2,.h 3,.gr 901,.h 4,.po 902],.hp [902,903,904] [] 0],[.bx 900 108 [.h 0,.h 1,.h 2,.h 3,.gr 901,.h 4,.k (.pointer none)],.gn 902,.gn 903,.gn 904],[]⟩ 0),(3,.bin .eql 3 6 (kI 0)),(0,.fb 10 false),(0,.raw [(1000008,.bin .neq 106 (LF (.k (.pointer none))) (LF (.k (.pointer none))) (LF (.k (.bool false))))] 0),(9,.call 55 [LF (kB false),LF (kI 17)] (.t [])),(11,.ia 24 3 1 9 (kI 0)),(12,.ld 3 0 11),(13,.bin .lss 3 12 (kI 1))] (.b 13 (.s [(0,.raw [(1000020,.pan ⟨55,[.o (.c (.k (.bool true))),.o (.c (.k (.int .i64 3)))],[],14,[]⟩)] 1)] (.z (.ret true (14) []))) (.s [(16,.ia 24 3 1 9 (kI 0)),(17,.ld 3 0 14),(18,.bin .gtr 3 15 (kI 24))] (.b 16 (.s [(0,.raw [(1000020,.pan ⟨55,[16,.o (.c (.k (.int .i64 3)))],[],17,[]⟩)] 1)] (.z (.ret true (17) []))) (.s [(20,.call 55 [16,LF (kI 3)] (.t [])),(27,.ia 24 3 1 9 (kI 0)),(28,.ld 3 0 17),(31,.bin .mul 3 (kI 2) 6),(32,.bin .sub 3 (kI 3) 19),(33,.bin .mul 3 18 20),(0,.raw [(1000035,.aln 902)] 0),(0,.gh ⟨5,[.bx 902 141 [.h 1,.h 2,.h 3,.h 21,.k (.slice none 0 0),.k (.slice none 0 0)],.gn 903],[.bx 902 141 [.h 1,.h 2,.h 3,.h 21,.gr 903,.k (.slice none 0 0)],.gl 903 26 3 1],[]⟩ 0),(0,.gh ⟨5,[.bx 902 141 [.h 1,.h 2,.h 3,.h 21,.gr 903,.k (.slice none 0 0)],.gn 904],[.bx 902 141 [.h 1,.h 2,.h 3,.h 21,.gr 903,.gr 904],.gl 904 3 1 2],[]⟩ 0),(0,.gh ⟨5,[.bx 900 108 [.h 0,.h 1,.h 2,.h 3,.gr 901,.h 4,.p 902 0],.bx 902 141 [.h 1,.h 2,.h 3,.h 21,.gr 903,.gr 904],.gl 903 26 3 1,.gl 904 3 1 2],[.bx 900 108 [.h 0,.h 1,.h 2,.h 3,.gr 901,.h 4,.po 902],.hp [902,903,904] [] 1],[]⟩ 0)] (.z .no)))))
theorem zh3 {w0:World} (su:(List (List UInt8×Sb))) (pt:Vec) (mv:(List Mov)) (dn:Int) (x:Stm) (l:(List Int)) (hmv:mv.length≤40) (hN:x.2.1≠0) (hl:1≤l.length) (k:Int) (hr:turnS x.2.1 l (pt,mv,dn,none)=.error k):RP w0 112 [.o (.g [pI x.1,pI x.2.1,pS x.2.2.1,pLs cE x.2.2.2]),.o (.c (pLs cI l))] su (pt,mv,dn,none) k:=by
 refine tfn w0 112 ⟨[LF (.p 900 0),.o (.g [5,6,7,8]),9],(rnA 0 1 2 3 4 0 0),[],0,0⟩ ⟨10,[.ls 1 cI kIc l,.ls 3 cE kE x.2.2.2,sS x.2.2.1,sI x.2.1,sI x.1,sI dn,sI pt.2.2,sI pt.2.1,sI pt.1,.q (pSu su)],[pG cM mv],[oStr w0 none]⟩ zfr (by kernel_rfl) ?_
 refine rx [] [] [] (fun t u w _=>zd1 (w0:=w0) (ls:=[.h 0,.h 1,.h 2,.h 3,.gr 901,.h 4]) rfl) ?_
 intro v1 e1
 have s2:v1=false:=by (rw [← e1];simpa using hN)
 refine ai s2 ?_
 refine rx [] [] [] (fun t u w=>⟨zaZ (by kernel_rfl),trivial⟩) ?_
 have s3:(false && ((17:Int) != 0))=false:=by rfl
 refine cx (.t []) (zv false (17:Int) s3) rfl ?_
 refine ai (by exact ⟨0,l.getD 0 0,rfl,zZ (by omega)⟩) fun n4 x5 s6 s7=>?_
 intro v8 e8
 refine ai (fun h9=>?_) fun h9=>?_
 ·
  have s10:(true && ((3:Int) != 0))=true:=by rfl
  refine rx [.v (.iface 37 (.int .i64 (3:Int)))] [] [] (fun t u w=>⟨b_con (pan:=true) (zh true (3:Int) (3:Int) rfl s10),trivial⟩) ?_
  intro hc
  have hq:k=(3:Int):=by
   (have dh9:=LD e8 h9;unfold turnS at hr;rw [if_neg hN] at hr;simp only [Option.isSome_none,Bool.false_eq_true,if_false] at hr;have hx0:l.getD 0 0=x5:=zp (k:=0) s7 s6;rw [if_pos (by omega)] at hr;injection hr with hr;exact hr.symm)
  rw [hq]
  exact rp_of (su:=su) (s:=(pt,mv,dn,none)) (hc) ⟨rfl,rfl,rfl,rfl,rfl,rfl,rfl⟩ rfl rfl rfl
 ·
  refine ai (by exact ⟨0,l.getD 0 0,rfl,zZ (by omega)⟩) fun n10 x11 s12 s13=>?_
  intro v14 e14
  refine ai (fun h15=>?_) fun h15=>?_
  ·
   have s16:(v14 && ((3:Int) != 0))=true:=by (rw [h15];rfl)
   refine rx [.v (.iface 37 (.int .i64 (3:Int)))] [] [] (fun t u w=>⟨b_con (pan:=true) (zh v14 (3:Int) (3:Int) rfl s16),trivial⟩) ?_
   intro hc
   have hq:k=(3:Int):=by
    (have dh9:=LE e8 h9;have dh15:=LD e14 h15;unfold turnS at hr;rw [if_neg hN] at hr;simp only [Option.isSome_none,Bool.false_eq_true,if_false] at hr;have hx0:l.getD 0 0=x5:=zp (k:=0) s7 s6;have hx1:l.getD 0 0=x11:=zp (k:=0) s13 s12;rw [if_pos (by omega)] at hr;injection hr with hr;exact hr.symm)
   rw [hq]
   exact rp_of (su:=su) (s:=(pt,mv,dn,none)) (hc) ⟨rfl,rfl,rfl,rfl,rfl,rfl,rfl⟩ rfl rfl rfl
  ·
   have s16:(v14 && ((3:Int) != 0))=false:=by (rw [h15];rfl)
   refine cx (.t []) (zv v14 (3:Int) s16) rfl ?_
   refine ai (by exact ⟨0,l.getD 0 0,rfl,zZ (by omega)⟩) fun n17 x18 s19 s20=>?_
   intro v21 e21 v22 e22 v23 e23
   refine rx [] [] [] (fun t u w=>⟨trivial,trivial⟩) ?_
   refine rx [] [pG cV ([]:List Vec)] [] (fun t u w _=>zG (c:=cV) (i:=4) (ls:=[.h 1,.h 2,.h 3,.h 21,.k (.slice none 0 0),.k (.slice none 0 0)]) rfl rfl) ?_
   refine rx [] [pG cI ([]:List Int)] [] (fun t u w _=>zG (c:=cI) (i:=5) (ls:=[.h 1,.h 2,.h 3,.h 21,.gr 903,.k (.slice none 0 0)]) rfl rfl) ?_
   refine rx [] [] [oStr w0 (some (pt,v23,([]:List Vec),([]:List Int)))] (fun t u w _=>zcD (w0:=w0) (ls:=[.h 0,.h 1,.h 2,.h 3,.gr 901,.h 4]) (s:=(pt,v23,([]:List Vec),([]:List Int))) rfl rfl rfl rfl rfl rfl rfl) ?_
   exfalso
   (have dh9:=LE e8 h9;have dh15:=LE e14 h15;unfold turnS at hr;rw [if_neg hN] at hr;simp only [Option.isSome_none,Bool.false_eq_true,if_false] at hr;have hx0:l.getD 0 0=x5:=zp (k:=0) s7 s6;have hx1:l.getD 0 0=x11:=zp (k:=0) s13 s12;have hx2:l.getD 0 0=x18:=zp (k:=0) s20 s19;rw [if_neg (by omega)] at hr;cases hr)
def zfs:Tr:=.s [(3,.bin .eql 3 10 (kI 0)),(0,.fb 14 false),(0,.raw [(1000008,.bin .neq 106 (LF (.p 902 0)) (LF (.k (.pointer none))) (LF (.k (.bool true))))] 0),(0,.raw [(1000009,.pan ⟨55,[.o (.c (.k (.bool true))),.o (.c (.k (.int .i64 17)))],[],15,[]⟩)] 1)] (.z (.ret true (15) []))
theorem zh4 {w0:World} (su:(List (List UInt8×Sb))) (pt:Vec) (mv:(List Mov)) (dn:Int) (c:Str) (x:Stm) (l:(List Int)) (hmv:mv.length≤40) (hN:x.2.1≠0) (hl:1≤l.length) (k:Int) (hr:turnS x.2.1 l (pt,mv,dn,some c)=.error k):RP w0 112 [.o (.g [pI x.1,pI x.2.1,pS x.2.2.1,pLs cE x.2.2.2]),.o (.c (pLs cI l))] su (pt,mv,dn,some c) k:=by
 refine tfn w0 112 ⟨[LF (.p 900 0),.o (.g [9,10,11,12]),13],(rnS 0 1 2 3 4 0 5 6 7 8 1 2),[],0,0⟩ ⟨14,[.ls 1 cI kIc l,.ls 3 cE kE x.2.2.2,sS x.2.2.1,sI x.2.1,sI x.1,sI c.2.1,sI c.1.2.2,sI c.1.2.1,sI c.1.1,sI dn,sI pt.2.2,sI pt.2.1,sI pt.1,.q (pSu su)],[pG cM mv,pG cV c.2.2.1,pG cI c.2.2.2],[]⟩ zfs (by kernel_rfl) ?_
 intro v1 e1
 have s2:v1=false:=by (rw [← e1];simpa using hN)
 refine ai s2 ?_
 refine rx [] [] [] (fun t u w=>⟨zaE (by kernel_rfl),trivial⟩) ?_
 have s3:(true && ((17:Int) != 0))=true:=by rfl
 refine rx [.v (.iface 37 (.int .i64 (17:Int)))] [] [] (fun t u w=>⟨b_con (pan:=true) (zh true (17:Int) (17:Int) rfl s3),trivial⟩) ?_
 intro hc
 have hq:k=(17:Int):=by
  (unfold turnS at hr;rw [if_neg hN] at hr;simp only [Option.isSome_some,if_true] at hr;injection hr with hr;exact hr.symm)
 rw [hq]
 exact zaP (su:=su) (s:=(pt,mv,dn,some c)) (c:=c) (hc) rfl ⟨rfl,rfl,rfl,rfl,rfl,rfl⟩ ⟨rfl,rfl,rfl,rfl,rfl,rfl⟩ rfl rfl rfl
theorem zgy {w0:World} (su:List (List UInt8×Sb)) (x:Stm) (l:List Int) (s s':Rn) (hmv:s.2.1.length≤40) (hl:x.2.1≠0→1≤l.length) (hc:∀c,s.2.2.2=some c→c.2.2.1.length≤1000∧c.2.2.2.length=c.2.2.1.length) (h:turnS x.2.1 l s=.ok s'):RF w0 112 [.o (.g [pI x.1,pI x.2.1,pS x.2.2.1,pLs cE x.2.2.2]),.o (.c (pLs cI l))] su s s' (.t []):=by
 obtain ⟨pt,mv,dn,c⟩:=s
 by_cases hN:x.2.1=0
 ·exact zj5 su pt mv dn c x l hmv hN hc s' h
 ·cases c with
  | none=>exact zj6 su pt mv dn x l hmv hN (hl hN) s' h
  | some c=>unfold turnS at h;rw [if_neg hN] at h;cases h
theorem zgz {w0:World} (su:List (List UInt8×Sb)) (x:Stm) (l:List Int) (s:Rn) (k:Int) (hmv:s.2.1.length≤40) (hl:x.2.1≠0→1≤l.length) (hc:∀c,s.2.2.2=some c→c.2.2.1.length≤1000∧c.2.2.2.length=c.2.2.1.length) (h:turnS x.2.1 l s=.error k):RP w0 112 [.o (.g [pI x.1,pI x.2.1,pS x.2.2.1,pLs cE x.2.2.2]),.o (.c (pLs cI l))] su s k:=by
 obtain ⟨pt,mv,dn,c⟩:=s
 by_cases hN:x.2.1=0
 ·exact zh2 su pt mv dn c x l hmv hN hc k h
 ·cases c with
  | none=>exact zh3 su pt mv dn x l hmv hN (hl hN) k h
  | some c=>exact zh4 su pt mv dn c x l hmv hN (hl hN) k h
end Go.Proofs.YteimplkdcjapdaaGreatDoor
namespace Go.Proofs.YteimplkdcjapdaaGreatDoor
open Go.RowKit Go.Shelf
theorem zlk:∀f∈zg,(f.1=1∧f.2.1=0∧manyF f=3∧f.2.2.2=0)∨(f.1=2∧f.2.1=0∧manyF f=4∧f.2.2.2=0)∨(f.1=3∧f.2.1=0∧manyF f=7∧f.2.2.2=0)∨(f.1=4∧f.2.1=0∧manyF f=0∧f.2.2.2=0)∨(f.1=4∧(f.2.1=1∨f.2.1=2)∧manyF f=1∧f.2.2.2=0)∨f.1=5:=by decide +kernel
structure Kinds (x:Stm):Prop where
 kind:x.1=1∨x.1=2∨x.1=3∨x.1=4∨x.1=5
 k1:x.1=1→3≤x.2.2.2.length
 k2:x.1=2→4≤x.2.2.2.length
 k3:x.1=3→7≤x.2.2.2.length
 k4:x.1=4→x.2.1≠0→1≤x.2.2.2.length
theorem zmf {a:Int} {x:Stm} (h:stmE a x=0):Kinds x:=by
 unfold stmE at h
 split at h
 ·cases h
 ·rename_i f hf
  split at h
  ·rename_i hfit
   have hm:=List.mem_of_find?_eq_some hf
   have hi:=List.find?_some hf
   simp only [zae,Bool.and_eq_true,beq_iff_eq] at hi
   unfold fitsF at hfit
   simp only [Bool.and_eq_true,Bool.not_eq_true',Bool.or_eq_false_iff,decide_eq_false_iff_not] at hfit
   have h1:=hfit.1.1
   have h2:=hfit.1.2
   rcases zlk f hm with ⟨e1,e2,e3,e4⟩ | ⟨e1,e2,e3,e4⟩ | ⟨e1,e2,e3,e4⟩ | ⟨e1,e2,e3,e4⟩ | ⟨e1,e2,e3,e4⟩ | e1
   all_goals exact ⟨by omega,by omega,by omega,by omega,by omega⟩
  ·cases h
def StOk (x:Stm):Prop:=Kinds x∧x.2.2.2.length≤1000000∧∀e∈x.2.2.2,nodes e≤1000000
def SuOk (su:List (List UInt8×Sb)):Prop:=∀y∈su,y.2.2.2.length≤1000000∧∀x∈y.2.2.2,StOk x
theorem qN {args:List Int}:∀{l:List Xp} {v:List Int},valsE args l=.ok v→v.length=l.length
 | [],v,h=>by rw [valsE] at h;injection h with h;rw [← h];rfl
 | x::r,v,h=>by
  rw [valsE] at h
  split at h
  ·cases h
  ·split at h
   ·rename_i l hl
    injection h with h
    rw [← h,List.length_cons,List.length_cons,qN hl]
   ·cases h
structure Gd (s:Rn):Prop where
 mv:s.2.1.length≤40
 dn:0≤s.2.2.1
 dm:s.2.2.1≤1000
 c:∀d,s.2.2.2=some d→d.2.2.2.length=d.2.2.1.length∧(d.2.2.1.length:Int)≤s.2.2.1
theorem ziI {m:Mov} {s s':Rn} (h:addS m s=.ok s') (hg:Gd s):Gd s':=by
 have hc:=qd h
 refine ⟨zem h hg.mv,?_,?_,fun d hd=>?_⟩
 all_goals
  have hdn:s'.2.2.1=s.2.2.1:=by
   unfold addS at h
   split at h
   ·injection h with h;rw [h]
   ·split at h
    ·cases h
    ·injection h with h;rw [← h]
  rw [hdn]
 ·exact hg.dn
 ·exact hg.dm
 ·exact hg.c d (hc ▸ hd)
theorem zk9 {f:List Int}:∀{l:List Vec} {k:Nat} {s s':Rn},addsL f k l s=.ok s'→Gd s→Gd s'
 | [],_,_,_,h,hg=>by rw [addsL] at h;injection h with h;rw [← h];exact hg
 | p::r,k,s,s',h,hg=>by
  rw [addsL] at h
  split at h
  ·rename_i t ht
   exact zk9 h (ziI ht hg)
  ·cases h
theorem zpe {s s':Rn} (h:offS s=.ok s') (hg:Gd s):Gd s':=by
 obtain ⟨pt,mv,dn,c⟩:=s
 cases c with
 | none=>injection h with h;rw [← h];exact hg
 | some c =>
  unfold offS at h
  dsimp only at h
  split at h
  ·injection h with h;rw [← h];exact ⟨hg.mv,hg.dn,hg.dm,fun d hd=>by cases hd⟩
  ·split at h
   ·cases h
   ·split at h
    ·cases h
    ·split at h
     ·exact zk9 h ⟨hg.mv,hg.dn,hg.dm,fun d hd=>by cases hd⟩
     ·cases h
theorem zd0 {s:Rn} (hg:Gd s) (hlt:s.2.2.1<1000):Gd (s.1,s.2.1,s.2.2.1+1,s.2.2.2):=⟨hg.mv,by have:=hg.dn;show 0≤s.2.2.1+1;omega,by show s.2.2.1+1≤1000;omega,fun d hd=>⟨(hg.c d hd).1,by have:=(hg.c d hd).2;show _≤s.2.2.1+1;omega⟩⟩
theorem zao {x:Stm} {v:List Int} {s s':Rn} (h:handS x v (s.1,s.2.1,s.2.2.1+1,s.2.2.2)=.ok s') (hg:Gd s) (hlt:s.2.2.1<1000):Gd s':=by
 have hdn:=hg.dn
 have hg1:=zd0 hg hlt
 unfold handS at h
 split at h
 ·unfold zJ at h
  split at h
  ·cases h
  ·split at h
   ·exact ziI h hg1
   ·cases h
 ·split at h
  ·unfold lineS at h
   split at h
   ·split at h
    ·exact ziI h hg1
    ·rename_i c hc
     have hc:s.2.2.2=some c:=hc
     split at h
     ·injection h with h;rw [← h];exact hg1
     ·split at h
      ·cases h
      ·injection h with h
       rw [← h]
       refine ⟨hg1.mv,hg1.dn,hg1.dm,fun d hd=>?_⟩
       obtain rfl:=Option.some.inj hd
       have:=hg.c c hc
       refine ⟨by simp [this.1],?_⟩
       show ((c.2.2.1++[_]).length:Int)≤s.2.2.1+1
       simp
       omega
   ·cases h
  ·split at h
   ·unfold arcS at h
    split at h
    ·cases h
    ·split at h
     ·cases h
     ·exact ziI h hg1
   ·unfold turnS at h
    split at h
    ·exact zpe h hg1
    ·split at h
     ·cases h
     ·split at h
      ·cases h
      ·injection h with h
       rw [← h]
       exact ⟨hg1.mv,hg1.dn,hg1.dm,fun d hd=>by obtain rfl:=Option.some.inj hd;exact ⟨rfl,hg1.dn⟩⟩
def stepC (subs:List (List UInt8×Sb)) (n:Nat) (args:List Int) (s:Rn) (x:Stm):RE:=
 if s.2.2.1 ≥ 1000 then .error 9
 else if x.1≠5 then
  match valsE args x.2.2.2 with
  | .ok v=>handS x v (s.1,s.2.1,s.2.2.1+1,s.2.2.2)
  | .error e=>.error e
 else match subs.find? (fun y=>y.1 == x.2.2.1) with
  | none=>.error 18
  | some y=>if y.2.2.1≠x.2.2.2.length∨n=0 then .error 18 else match valsE args x.2.2.2 with
   | .ok v=>zB subs n y.2.2.2 v (s.1,s.2.1,s.2.2.1+1,s.2.2.2)
   | .error e=>.error e
theorem zdR {subs:List (List UInt8×Sb)} {n:Nat} {l:List Stm} {args:List Int} {s:Rn}:zB subs (n+1) l args s=l.foldlM (stepC subs n args) s:=rfl
section
variable {su:List (List UInt8×Sb)} {n:Nat} {args v:List Int} {s:Rn} {x:Stm} {y:List UInt8×Sb} {e:Int}
theorem zga (h:s.2.2.1 ≥ 1000):stepC su n args s x=.error 9:=if_pos h
theorem qG (h:¬ s.2.2.1 ≥ 1000) (hk:x.1≠5) (hv:valsE args x.2.2.2=.error e):stepC su n args s x=.error e:=by unfold stepC;rw [if_neg h,if_pos hk,hv]
theorem zI (h:¬ s.2.2.1 ≥ 1000) (hk:x.1≠5) (hv:valsE args x.2.2.2=.ok v):stepC su n args s x=handS x v (s.1,s.2.1,s.2.2.1+1,s.2.2.2):=by unfold stepC;rw [if_neg h,if_pos hk,hv]
theorem zgb (h:¬ s.2.2.1 ≥ 1000) (hk:x.1=5) (hf:su.find? (fun y=>y.1 == x.2.2.1)=none):stepC su n args s x=.error 18:=by unfold stepC;rw [if_neg h,if_neg (by omega),hf]
theorem zb6 (h:¬ s.2.2.1 ≥ 1000) (hk:x.1=5) (hf:su.find? (fun y=>y.1 == x.2.2.1)=some y) (hb:y.2.2.1≠x.2.2.2.length∨n=0):stepC su n args s x=.error 18:=by
 unfold stepC;rw [if_neg h,if_neg (by omega),hf];dsimp only;rw [if_pos hb]
theorem zgc (h:¬ s.2.2.1 ≥ 1000) (hk:x.1=5) (hf:su.find? (fun y=>y.1 == x.2.2.1)=some y) (hb:¬ (y.2.2.1≠x.2.2.2.length∨n=0)) (hv:valsE args x.2.2.2=.error e):stepC su n args s x=.error e:=by
 unfold stepC;rw [if_neg h,if_neg (by omega),hf];dsimp only;rw [if_neg hb,hv]
theorem zb7 (h:¬ s.2.2.1 ≥ 1000) (hk:x.1=5) (hf:su.find? (fun y=>y.1 == x.2.2.1)=some y) (hb:¬ (y.2.2.1≠x.2.2.2.length∨n=0)) (hv:valsE args x.2.2.2=.ok v):stepC su n args s x=zB su n y.2.2.2 v (s.1,s.2.1,s.2.2.1+1,s.2.2.2):=by
 unfold stepC;rw [if_neg h,if_neg (by omega),hf];dsimp only;rw [if_neg hb,hv]
theorem hand1 (h:x.1=1):handS x v s=zJ v s:=if_pos h
theorem hand2 (h:x.1=2):handS x v s=lineS v s:=by unfold handS;rw [if_neg (by omega),if_pos h]
theorem hand3 (h:x.1=3):handS x v s=arcS v s:=by unfold handS;rw [if_neg (by omega),if_neg (by omega),if_pos h]
theorem hand4 (h:x.1=4):handS x v s=turnS x.2.1 v s:=by unfold handS;rw [if_neg (by omega),if_neg (by omega),if_neg (by omega)]
end
theorem zt {f:Rn→Stm→RE} {l:List Stm} {k:Nat} {x:Stm} {s:Rn} (h:l[k]?=some x):(l.drop k).foldlM f s=(match f s x with
  | .ok t=>(l.drop (k+1)).foldlM f t
  | .error e=>.error e):=by
 obtain ⟨hk,rfl⟩:=List.getElem?_eq_some_iff.1 h
 rw [List.drop_eq_getElem_cons hk,List.foldlM_cons]
 cases f s l[k]<;>rfl
theorem za1 {su:List (List UInt8×Sb)}:∀(n:Nat) (l:List Stm) (args:List Int) (s s':Rn),zB su n l args s=.ok s'→Gd s→Gd s'
 | 0,_,_,_,_,h,hg=>by injection h with h;rw [← h];exact hg
 | n+1,l,args,s,s',h,hg=>by
  rw [zdR] at h
  induction l generalizing s with
  | nil=>injection h with h;rw [← h];exact hg
  | cons x r ih =>
   rw [List.foldlM_cons] at h
   cases hx:stepC su n args s x with
   | error e=>rw [hx] at h;cases h
   | ok t =>
    rw [hx] at h
    refine ih t h ?_
    unfold stepC at hx
    split at hx
    ·cases hx
    ·rename_i hge
     have hlt:s.2.2.1<1000:=by omega
     split at hx
     ·split at hx
      ·exact zao hx hg hlt
      ·cases hx
     ·split at hx
      ·cases hx
      ·split at hx
       ·cases hx
       ·split at hx
        ·exact za1 n _ _ _ _ hx (zd0 hg hlt)
        ·cases hx
section
variable {K:Kit} {P:Program} {F:Fact} {T Kt E:TypeId} {n:Nat} {l:List (List UInt8×Sb)} {s:List UInt8} {k o:Lf}
theorem e_lkY {x:List UInt8×Sb} {ls:List Lf} (hT:P.underlying T=some (.map Kt E)) (hK:P.underlying Kt=some .string) (hn:F.c n=pSu l) (hk:Gives F k (.string ⟨s.toArray⟩)) (hf:l.find? (fun x=>x.1 == s)=some x) (hy:∀(β:Loc) W v,pSbV x.2 v W β.D→(Cm.g ls).ok F β v W) (ho:Gives F o (.bool true)):Ent.sound K P F (.op (.lk T true) [LF (.h n),LF k] [] (.t [.g ls,.c o])):=by
 intro β W vs hs _ _
 match vs,hs with
 | [vx,vk],⟨hx,hk',_⟩ =>
  have hx:F.c n vx W β.D:=hx
  rw [hn] at hx
  obtain ⟨q,es,c,rfl,_,h3,h4⟩:=hx
  obtain rfl:=(hk β vk W).1 hk'
  rcases zaH s 0 h4 with ⟨h5,_⟩ | ⟨y,j,v,h5,h6,h7⟩
  ·rw [hf] at h5;cases h5
  ·rw [hf] at h5
   obtain rfl:=Option.some.inj h5
   refine ⟨.tuple #[v,.bool true],?_,_,rfl,hy β W v h7,(ho β _ W).2 rfl,trivial⟩
   simp [Sig.sem,Instr.lookup,run_underlying hT,MapKept.run_getObj_map h3,MapKept.run_checkKey hK (k:=.string ⟨s.toArray⟩) (by trivial),MapKept.run_findKey hK h6,Result.andThen]
 | [],h=>exact h.elim
 | [_],h=>exact h.2.elim
 | _::_::_::_,h=>exact h.2.2.elim
theorem e_lkN {z:Array Value} {ls:List Lf} (hT:P.underlying T=some (.map Kt E)) (hK:P.underlying Kt=some .string) (hz:∀W,(zeroValue E).run P W=.ok (.agg z) W) (hn:F.c n=pSu l) (hk:Gives F k (.string ⟨s.toArray⟩)) (hf:l.find? (fun x=>x.1 == s)=none) (hy:z.toList.map Lf.k=ls):Ent.sound K P F (.op (.lk T true) [LF (.h n),LF k] [] (.t [.g ls,.c (.k (.bool false))])):=by
 subst hy
 intro β W vs hs _ _
 match vs,hs with
 | [vx,vk],⟨hx,hk',_⟩ =>
  have hx:F.c n vx W β.D:=hx
  rw [hn] at hx
  obtain ⟨q,es,c,rfl,_,h3,h4⟩:=hx
  obtain rfl:=(hk β vk W).1 hk'
  rcases zaH s 0 h4 with ⟨_,h6⟩ | ⟨y,j,v,h5,_,_⟩
  ·refine ⟨.tuple #[.agg z,.bool false],?_,_,rfl,⟨z,rfl,oks_k _⟩,rfl,trivial⟩
   simp [Sig.sem,Instr.lookup,run_underlying hT,MapKept.run_getObj_map h3,MapKept.run_checkKey hK (k:=.string ⟨s.toArray⟩) (by trivial),MapKept.run_findKey hK h6,Result.andThen,hz]
  ·rw [hf] at h5;cases h5
 | [],h=>exact h.elim
 | [_],h=>exact h.2.elim
 | _::_::_::_,h=>exact h.2.2.elim
end
end Go.Proofs.YteimplkdcjapdaaGreatDoor
