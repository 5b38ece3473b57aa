/-
  WireBack is proved: whatever the input, the law returns true and each argument reads as it did, where the listed variables read as listed; and the card, which ties it to the program's text.
-/
import Derived.Test.YtjcegdldgjphiaaGreatDoorGkBA
import Derived.Test.YtjcegdldgjphiaaGreatDoorGkAZ
import Derived.Test.YtjcegdldgjphiaaGreatDoorCards
import Derived.Test.YtjcegdldgjphiaaGreatDoorTie
import Derived.SevenTiedAt
set_option linter.unusedSimpArgs false
set_option linter.unusedVariables false
set_option maxRecDepth 100000
set_option maxHeartbeats 4000000
namespace Go.Proofs.YtjcegdldgjphiaaGreatDoor
open Go.RowKit Go.Shelf
def by1 (v:Val):List UInt8:=byV (v.1.tmod 6) v
theorem zsf (c:Int) {v:Val} (hv:OkV v) (r:List UInt8):callS c (some (byV c v++r))=some r∧readB c v (some (byV c v++r))=true:=by
 unfold byV callS readB
 by_cases h0:c=0
 ·simp only [if_pos h0,codI.back _ hv.n r];exact ⟨trivial,rfl⟩
 by_cases h1:c=1
 ·simp only [if_neg h0,if_pos h1,codT.back _ (zrm v) r];exact ⟨trivial,rfl⟩
 by_cases h2:c=2
 ·simp only [if_neg h0,if_neg h1,if_pos h2,codIs.back _ hv.lL r];exact ⟨trivial,rfl⟩
 by_cases h3:c=3
 ·simp only [if_neg h0,if_neg h1,if_neg h2,if_pos h3,codV.back _ hv.v r];exact ⟨trivial,rfl⟩
 by_cases h4:c=4
 ·simp only [if_neg h0,if_neg h1,if_neg h2,if_neg h3,if_pos h4,codC.back _ hv.cL r];exact ⟨trivial,rfl⟩
 ·simp only [if_neg h0,if_neg h1,if_neg h2,if_neg h3,if_neg h4,zpx,codR.back _ (zqu v) r];exact ⟨trivial,rfl⟩
theorem zsJ {l:List Val} (hok:∀x∈l,OkV x) (h8:l.length≤8):(l.flatMap by1).length≤4000:=by
 have h:=zjx (f:=by1) (k:=500) (l:=l) fun x hx=>zsy _ (hok x hx)
 omega
theorem tk8 {α:Type} (l:List α):(l.take (min l.length 8)).length≤8:=by rw [List.length_take];omega
theorem zqo {α:Type} {f:α→List UInt8} {l:List α} {n:Nat} {x:α} (h:l[n]?=some x):(l.drop n).flatMap f=f x++(l.drop (n+1)).flatMap f:=by
 obtain ⟨hlt,e⟩:=List.getElem?_eq_some_iff.1 h
 rw [List.drop_eq_getElem_cons hlt,List.flatMap_cons,e]
structure wb_a_T where
 o:(List UInt8)
 i:Int
def zpi:List Atom:=[.sl 0 (yh 3),.sl 2 (.o (.c (.k (.bool false)))),.sl 3 (.o (.c (.k (.bool true)))),.sl 4 (yh 5),.sl 10 (.o (.c (.k (.bool true)))),.sl 11 (yh 0),.sl 12 (yh 0),.sl 13 (yh 1),.sl 14 (yh 2),.sl 15 (yh 3),.sl 16 (yh 3),.sl 17 (yh 4),.sl 18 (yh 6)]
def zq2:LoopS:=⟨5,[.sl 0 (yh 3),.sl 2 (.o (.c (.k (.bool false)))),.sl 3 (.o (.c (.k (.bool true)))),.sl 4 (.o (.c (.k (.string ⟨#[]⟩)))),.sl 10 (.o (.c (.k (.bool true)))),.sl 11 (yh 0),.sl 12 (yh 0),.sl 13 (yh 1),.sl 14 (yh 2),.sl 15 (yh 3),.sl 16 (yh 3),.sl 17 (yh 4),.sl 18 (.o (.c (.k (.int .i64 0))))],(.x 0),[.sl 0 (yh 3),.sl 2 (.o (.c (.k (.bool false)))),.sl 3 (.o (.c (.k (.bool true)))),.sl 4 (yh 5),.sl 10 (.o (.c (.k (.bool true)))),.sl 11 (yh 0),.sl 12 (yh 0),.sl 13 (yh 1),.sl 14 (yh 2),.sl 15 (yh 3),.sl 16 (yh 3),.sl 17 (yh 4)]⟩
theorem zv4 {w0:World} (hM:LM w0) (hTS:LS w0) (l:(List Val)) (v1:Int) (v2:Int) (n3:Nat) (v5:(List Val)) (v7:Int) (o:(List UInt8)) (i:Int) (v501:Bool) (n503:Nat) (x504:Val) (v507:(List UInt8)) (v509:(List UInt8)) (v511:Int) (e501:(decide (i<v7))=v501) (e507:(byV ((x504.1:Int).tmod 6) x504)=v507) (e509:(o++v507)=v509) (e511:(IntKind.i64.wrap (i+(1:Int)))=v511) (h502:v501=true) (s505:i=(n503:Int)) (s506:v5[n503]?=some x504) (s508:OkV x504) (s510:(((o:List UInt8).length+(v507:List UInt8).length:Nat):Int)≤9223372036854775807) (o':(List UInt8)) (i':Int) (q0:(v509)=o') (q1:(v511)=i') (R:Frm) (hR:R.pm=⟨ntOf Tryz.prog 5,[],[]⟩):Goes (KN w0) Tryz.prog R (lp Tryz.prog 5 0) (FL [pLs cVal l,pI v1,pI v2,pLs cVal v5,pI v7,pS o,pI i] []) zpi .n (FL [pLs cVal l,pI v1,pI v2,pLs cVal v5,pI v7,pS o',pI i'] []) zpi:=
 goes (x:=.n) (y:=.n) (Fb:=FL [pLs cVal l,pI v1,pI v2,pLs cVal v5,pI v7,pS o,pI i,pB v501,pP (cVal x504),pV (.int .u8 x504.1),pI x504.2.1,pS x504.2.2.1,pLs cI x504.2.2.2.1,pI x504.2.2.2.2.1.1,pI x504.2.2.2.2.1.2.1,pI x504.2.2.2.2.1.2.2,pLs cPl x504.2.2.2.2.2.1,pLs cI x504.2.2.2.2.2.2,pS v507,pS v509,pI v511] []) (stb:=zpi) (tl:=[.sl 0 (yh 3),.sl 2 (.o (.c (.k (.bool false)))),.sl 3 (.o (.c (.k (.bool true)))),.sl 4 (yh 19),.sl 10 (.o (.c (.k (.bool true)))),.sl 11 (yh 0),.sl 12 (yh 0),.sl 13 (yh 1),.sl 14 (yh 2),.sl 15 (yh 3),.sl 16 (yh 3),.sl 17 (yh 4),.sl 18 (yh 20)]) (C:=((1005000,.bin .lss 3 (yh 6) (yh 4) (yh 7)) ::
  (10007,.fb 7 true) ::
  (1005001,.op (.ia 52) [yh 3,yh 6] [] (yh 8)) ::
  (1005002,.op (.ld 27) [yh 8] [] (.o (.g [.h 9,.h 10,.h 11,.h 12,.h 13,.h 14,.h 15,.h 16,.h 17]))) ::
  (1005009,.call ⟨14,[.o (.g [.h 9,.h 10,.h 11,.h 12,.h 13,.h 14,.h 15,.h 16,.h 17]),yh 9],[],yh 18,[]⟩) ::
  (1005010,.bin .add 9 (yh 5) (yh 18) (yh 19)) ::
  (1005012,.bin .add 3 (yh 6) (LF (.k (.int .i64 1))) (yh 20)) ::
  []:List (Nat×Ent))) (H:=.no) 5000 (zipA.imp ⟨z_c yy,z_c yy,z_c yy,z_c yy,z_c yy,z_c yy,z_c yy,z_c yy,z_c yy,z_c yy,z_c yy,z_c yy,z_c yy,trivial⟩) (zf ⟨(zt zwL),zb,zb,(zt zwL),zb,zb,zb,zb,(zbf (zwL _)),zb,zb,zb,(zt zo),zb,zb,zb,(zt zx),(zt zo),zb,zb,zb,trivial⟩) ⟨e_bin (za rfl) (za rfl) (za rfl) (r_cmp (congrArg some e501)),
  e_fbv h502,
  e_iaL (E:=27) (z:=9) (fun _=>rfl) (by kernel_rfl) (by kernel_rfl) (zc rfl) (za rfl) s505 s506 (zc rfl),
  e_ldG (by kernel_rfl) (by kernel_rfl) (zc rfl) rfl rfl rfl,
  ze (zp0 hM hTS x504 x504.1 v507 e507 s508),
  e_bin (za rfl) (za rfl) (za rfl) (fun W X Y=>by rw [← e509];exact r_cat s510 W X Y),
  e_bin (za rfl) zd (za rfl) (r_ar (congrArg some e511)),
  trivial⟩ mixed hR trivial (fun _ _ _ hs=>by cases hs) (by kernel_rfl:zz (KN w0) Tryz.prog _ .no ⟨ntOf Tryz.prog 5,[],[]⟩ (lp Tryz.prog 5 0) 5000 zpi .n [.sl 0 (yh 3),.sl 2 (.o (.c (.k (.bool false)))),.sl 3 (.o (.c (.k (.bool true)))),.sl 4 (yh 19),.sl 10 (.o (.c (.k (.bool true)))),.sl 11 (yh 0),.sl 12 (yh 0),.sl 13 (yh 1),.sl 14 (yh 2),.sl 15 (yh 3),.sl 16 (yh 3),.sl 17 (yh 4),.sl 18 (yh 20)]=true) rfl (zipA.imp ⟨z_c yy,z_c yy,z_c yy,z_c (fun β v W h=>(zc rfl β v W).2 (by rw [← q0];exact h)),z_c yy,z_c yy,z_c yy,z_c yy,z_c yy,z_c yy,z_c yy,z_c yy,z_c (fun β v W h=>(zc rfl β v W).2 (by rw [← q1];exact h)),trivial⟩)
theorem zv5 {w0:World} (hM:LM w0) (hTS:LS w0) (l:(List Val)) (v1:Int) (v2:Int) (n3:Nat) (v5:(List Val)) (v7:Int) (o:(List UInt8)) (i:Int) (v501:Bool) (e501:(decide (i<v7))=v501) (h502:v501=false) (x9001:(List UInt8)) (F:Fact) (u0:F.c 0=pLs cVal l) (u1:F.c 1=pI v1) (u2:F.c 2=pI v2) (u3:F.c 3=pLs cVal v5) (u4:F.c 4=pI v7) (u5:F.c 5=pS x9001) (q0:(o)=x9001) (R:Frm) (hR:R.pm=⟨ntOf Tryz.prog 5,[],[]⟩):Goes (KN w0) Tryz.prog R (lp Tryz.prog 5 0) (FL [pLs cVal l,pI v1,pI v2,pLs cVal v5,pI v7,pS o,pI i] []) zpi (.x 0) F zq2.out:=
 goes (x:=(.x 0)) (y:=(.x 0)) (Fb:=FL [pLs cVal l,pI v1,pI v2,pLs cVal v5,pI v7,pS o,pI i,pB v501] []) (stb:=zpi) (tl:=[.sl 0 (yh 3),.sl 2 (.o (.c (.k (.bool false)))),.sl 3 (.o (.c (.k (.bool true)))),.sl 4 (yh 5),.sl 10 (.o (.c (.k (.bool true)))),.sl 11 (yh 0),.sl 12 (yh 0),.sl 13 (yh 1),.sl 14 (yh 2),.sl 15 (yh 3),.sl 16 (yh 3),.sl 17 (yh 4)]) (C:=((1005000,.bin .lss 3 (yh 6) (yh 4) (yh 7)) ::
  (10007,.fb 7 false) ::
  []:List (Nat×Ent))) (H:=.no) 5000 (zipA.imp ⟨z_c yy,z_c yy,z_c yy,z_c yy,z_c yy,z_c yy,z_c yy,z_c yy,z_c yy,z_c yy,z_c yy,z_c yy,z_c yy,trivial⟩) (zf ⟨(zt zwL),zb,zb,(zt zwL),zb,zb,zb,zb,trivial⟩) ⟨e_bin (za rfl) (za rfl) (za rfl) (r_cmp (congrArg some e501)),
  e_fbv h502,
  trivial⟩ mixed hR trivial (fun _ _ _ hs=>by cases hs) (by kernel_rfl:zz (KN w0) Tryz.prog _ .no ⟨ntOf Tryz.prog 5,[],[]⟩ (lp Tryz.prog 5 0) 5000 zpi (.x 0) [.sl 0 (yh 3),.sl 2 (.o (.c (.k (.bool false)))),.sl 3 (.o (.c (.k (.bool true)))),.sl 4 (yh 5),.sl 10 (.o (.c (.k (.bool true)))),.sl 11 (yh 0),.sl 12 (yh 0),.sl 13 (yh 1),.sl 14 (yh 2),.sl 15 (yh 3),.sl 16 (yh 3),.sl 17 (yh 4)]=true) rfl (zipA.imp ⟨z_c (fun β v W h=>(zc u3 β v W).2 h),z_c yy,z_c yy,z_c (fun β v W h=>(zc u5 β v W).2 (by rw [← q0];exact h)),z_c yy,z_c (fun β v W h=>(zc u0 β v W).2 h),z_c (fun β v W h=>(zc u0 β v W).2 h),z_c (fun β v W h=>(zc u1 β v W).2 h),z_c (fun β v W h=>(zc u2 β v W).2 h),z_c (fun β v W h=>(zc u3 β v W).2 h),z_c (fun β v W h=>(zc u3 β v W).2 h),z_c (fun β v W h=>(zc u4 β v W).2 h),trivial⟩)
def zwB (l:(List Val)) (v1:Int) (v2:Int) (n3:Nat) (v5:(List Val)) (v7:Int) (t:wb_a_T) (x9001:(List UInt8)):Prop:=(∃(v501:Bool),((decide (t.i<v7))=v501)∧(v501=false)∧((t.o)=x9001)∧True)
def zwA (l:(List Val)) (v1:Int) (v2:Int) (n3:Nat) (v5:(List Val)) (v7:Int) (t t':wb_a_T):Prop:=(∃(v501:Bool),∃(n503:Nat),∃(x504:Val),∃(v507:(List UInt8)),∃(v509:(List UInt8)),∃(v511:Int),((decide (t.i<v7))=v501)∧((byV ((x504.1:Int).tmod 6) x504)=v507)∧((t.o++v507)=v509)∧((IntKind.i64.wrap (t.i+(1:Int)))=v511)∧(v501=true)∧(t.i=(n503:Int))∧(v5[n503]?=some x504)∧(OkV x504)∧((((t.o:List UInt8).length+(v507:List UInt8).length:Nat):Int)≤9223372036854775807)∧((v509)=t'.o)∧((v511)=t'.i)∧True)
theorem zuE {w0:World} (hM:LM w0) (hTS:LS w0) (l:(List Val)) (v1:Int) (v2:Int) (n3:Nat) (v5:(List Val)) (v7:Int) (x9001:(List UInt8)) {F:Fact} (u0:F.c 0=pLs cVal l) (u1:F.c 1=pI v1) (u2:F.c 2=pI v2) (u3:F.c 3=pLs cVal v5) (u4:F.c 4=pI v7) (u5:F.c 5=pS x9001) (R:Frm) (hR:R.pm=⟨ntOf Tryz.prog 5,[],[]⟩) (J:wb_a_T→Prop) (m:wb_a_T→Nat) (hJ:J { o:=[],i:=(0:Int) }) (rounds:∀t,J t→zwB l v1 v2 n3 v5 v7 t x9001∨∃t',zwA l v1 v2 n3 v5 v7 t t'∧m t'<m t∧J t'):zg (KN w0) Tryz.prog F R zq2 (lp Tryz.prog 5 0):=by
 refine zP (T:=wb_a_T) (fun t=>FL [pLs cVal l,pI v1,pI v2,pLs cVal v5,pI v7,pS t.o,pI t.i] []) J m { o:=[],i:=(0:Int) } zpi hJ (zipA.imp ⟨z_c (fun β v W h=>(zc u3 β v W).1 h),z_c yy,z_c yy,z_c yy,z_c yy,z_c (fun β v W h=>(zc u0 β v W).1 h),z_c (fun β v W h=>(zc u0 β v W).1 h),z_c (fun β v W h=>(zc u1 β v W).1 h),z_c (fun β v W h=>(zc u2 β v W).1 h),z_c (fun β v W h=>(zc u3 β v W).1 h),z_c (fun β v W h=>(zc u3 β v W).1 h),z_c (fun β v W h=>(zc u4 β v W).1 h),z_c yy,trivial⟩) rfl fun t ht=>?_
 rcases rounds t ht with hz_ | ⟨t',hz_,hm_,hj_⟩
 ·refine .inl ?_
  rcases hz_ with ⟨v501,e501,h502,q0,_⟩
  ·exact zv5 hM hTS l v1 v2 n3 v5 v7  t.o t.i v501 e501 h502 x9001 F u0 u1 u2 u3 u4 u5 q0 R hR
 ·refine .inr ⟨t',hm_,hj_,?_⟩
  rcases hz_ with ⟨v501,n503,x504,v507,v509,v511,e501,e507,e509,e511,h502,s505,s506,s508,s510,q0,q1,_⟩
  ·exact zv4 hM hTS l v1 v2 n3 v5 v7  t.o t.i v501 n503 x504 v507 v509 v511 e501 e507 e509 e511 h502 s505 s506 s508 s510 t'.o t'.i q0 q1 R hR
theorem zv3 {w0:World} (hM:LM w0) (hTS:LS w0) (l:(List Val)) (v1:Int) (v2:Int) (n3:Nat) (v5:(List Val)) (v7:Int) (x9001:(List UInt8)) {F:Fact} (u0:F.c 0=pLs cVal l) (u1:F.c 1=pI v1) (u2:F.c 2=pI v2) (u3:F.c 3=pLs cVal v5) (u4:F.c 4=pI v7) (u5:F.c 5=pS x9001) (R:Frm) (hR:R.pm=⟨ntOf Tryz.prog 5,[],[]⟩) (h7:(v5.length:Int)=v7) (hok:∀x∈v5,OkV x) (h8:v5.length≤8) (hO:v5.flatMap by1=x9001):zg (KN w0) Tryz.prog F R zq2 (lp Tryz.prog 5 0):=by
 refine zuE hM hTS l v1 v2 n3 v5 v7  x9001 u0 u1 u2 u3 u4 u5 R hR (fun ⟨o,i⟩=>∃n:Nat,i=(n:Int)∧n≤v5.length∧o=(v5.take n).flatMap by1) (fun ⟨o,i⟩=>((v5.length:Int) - i).toNat) ⟨0,rfl,Nat.zero_le _,by simp⟩ fun t hJ=>?_
 obtain ⟨o,i⟩:=t
 dsimp only at hJ
 obtain ⟨n,hi,hn,ho⟩:=hJ
 have hol:o.length≤4000:=by rw [ho];exact zsJ (fun x hx=>hok x (List.mem_of_mem_take hx)) (by rw [List.length_take];omega)
 obtain ⟨v501,e501⟩:∃v,(decide (i<v7))=v:=⟨_,rfl⟩
 cases h502:v501 with
 | true =>
  obtain ⟨n503,x504,s505,s506⟩:∃(n503:Nat) (x504:Val),i=(n503:Int)∧v5[n503]?=some x504:=by (have d1:=of_decide_eq_true (e501.trans h502);have hlt:n<v5.length:=(by omega);exact ⟨n,v5[n],hi,List.getElem?_eq_getElem hlt⟩)
  obtain ⟨v507,e507⟩:∃v,(byV ((x504.1:Int).tmod 6) x504)=v:=⟨_,rfl⟩
  have s508:OkV x504:=by exact hok _ (List.mem_of_getElem? s506)
  obtain ⟨v509,e509⟩:∃v,(o++v507)=v:=⟨_,rfl⟩
  have s510:(((o:List UInt8).length+(v507:List UInt8).length:Nat):Int)≤9223372036854775807:=by (have q:=zsy (x504.1.tmod 6) (hok _ (List.mem_of_getElem? s506));rw [e507] at q;omega)
  obtain ⟨v511,e511⟩:∃v,(IntKind.i64.wrap (i+(1:Int)))=v:=⟨_,rfl⟩
  refine .inr ⟨⟨v509,v511⟩,⟨v501,n503,x504,v507,v509,v511,e501,e507,e509,e511,h502,s505,s506,s508,s510,rfl,rfl,trivial⟩,?_,?_⟩
  all_goals (have d1:=of_decide_eq_true (e501.trans h502);have hnn:n503=n:=(by have t:=s505;omega);subst hnn;have g0:=s506;have x4:v511=((n503+1:Nat):Int):=(by rw [← e511,hi,wri (by omega)];omega))
  ·show ((v5.length:Int) - v511).toNat<((v5.length:Int) - i).toNat
   omega
  ·exact ⟨n503+1,x4,by omega,by rw [← e509,← e507,ho,zeU g0];rfl⟩
 | false =>
  refine .inl (⟨v501,e501,h502,?_,trivial⟩)
  (have d1:=of_decide_eq_false (e501.trans h502);have hnn:n=v5.length:=(by omega);rw [ho,← hO,hnn,List.take_length])
structure wb_b_T where
 j:Int
 z:St
def zpj:List Atom:=(.sl 0 (yh 3)::.sl 3 (.o (.c (.k (.bool true))))::.sl 4 (yh 5)::.sl 7 (.o (.c (.p 1014 0)))::.sl 10 (.o (.c (.k (.bool true))))::.sl 11 (yh 0)::.sl 12 (yh 0)::.sl 13 (yh 1)::.sl 14 (yh 2)::.sl 15 (yh 3)::.sl 16 (yh 3)::.sl 17 (yh 4)::.sl 29 (yh 5)::.sl 30 (.o (.c (.p 1014 0)))::.sl 31 (.o (.c (.p 1014 0)))::.sl 32 (.o (.c (.k (.bool false))))::.sl 33 (.o (.c (.k (.bool false))))::.sl 34 (.o (.c (.p 1014 0)))::.sl 35 (yh 8)::.sl 36 (yh 5)::.sl 37 (yh 9)::.sl 38 (yh 10)::.sl 39 (yh 10)::.sl 40 (yh 3)::.sl 41 (yh 11)::.sl 42 (yh 12)::.bx 1014 62 [.h 13,.h 14]::[]:List Atom)
def zq3:LoopS:=⟨13,(.sl 0 (yh 3)::.sl 3 (.o (.c (.k (.bool true))))::.sl 4 (yh 5)::.sl 7 (.o (.c (.p 1014 0)))::.sl 10 (.o (.c (.k (.bool true))))::.sl 11 (yh 0)::.sl 12 (yh 0)::.sl 13 (yh 1)::.sl 14 (yh 2)::.sl 15 (yh 3)::.sl 16 (yh 3)::.sl 17 (yh 4)::.sl 29 (yh 5)::.sl 30 (.o (.c (.p 1014 0)))::.sl 31 (.o (.c (.p 1014 0)))::.sl 32 (.o (.c (.k (.bool false))))::.sl 33 (.o (.c (.k (.bool false))))::.sl 34 (.o (.c (.p 1014 0)))::.sl 35 (yh 8)::.sl 36 (yh 5)::.sl 37 (yh 9)::.sl 38 (yh 10)::.sl 39 (yh 10)::.sl 40 (yh 3)::.sl 41 (yh 11)::.sl 42 (.o (.c (.k (.int .i64 0))))::.bx 1014 62 [.h 6,.h 7]::[]:List Atom),(.x 2),(.sl 0 (yh 3)::.sl 3 (.o (.c (.k (.bool true))))::.sl 4 (yh 5)::.sl 7 (.o (.c (.p 1014 0)))::.sl 10 (.o (.c (.k (.bool true))))::.sl 11 (yh 0)::.sl 12 (yh 0)::.sl 13 (yh 1)::.sl 14 (yh 2)::.sl 15 (yh 3)::.sl 16 (yh 3)::.sl 17 (yh 4)::.sl 29 (yh 5)::.sl 30 (.o (.c (.p 1014 0)))::.sl 31 (.o (.c (.p 1014 0)))::.sl 32 (.o (.c (.k (.bool false))))::.sl 33 (.o (.c (.k (.bool false))))::.sl 34 (.o (.c (.p 1014 0)))::.sl 35 (yh 8)::.sl 36 (yh 5)::.sl 37 (yh 9)::.sl 38 (yh 10)::.sl 39 (yh 10)::.sl 40 (yh 3)::.sl 41 (yh 11)::.bx 1014 62 [.h 12,.h 13]::[]:List Atom)⟩
theorem zv7 {w0:World} (hM:LM w0) (hTS:LS w0) (l:(List Val)) (v1:Int) (v2:Int) (n3:Nat) (v5:(List Val)) (v7:Int) (x9001:(List UInt8)) (v8:St) (v9:Int) (v10:Int) (v11:Bool) (v13:Int) (h12:v11=false) (j:Int) (z:St) (v501:Bool) (n503:Nat) (x504:Val) (v507:Bool) (v508:St) (v510:Bool) (v512:Bool) (v514:Int) (e501:(decide (j<v13))=v501) (e507:(readB ((x504.1:Int).tmod 6) x504 z)=v507) (e508:(callS ((x504.1:Int).tmod 6) z)=v508) (e510:(!v507)=v510) (e512:(bdO v508)=v512) (e514:(IntKind.i64.wrap (j+(1:Int)))=v514) (h502:v501=true) (s505:j=(n503:Int)) (s506:v5[n503]?=some x504) (s509:leftN z≤1000000) (h511:v510=false) (h513:v512=false) (j':Int) (z':St) (q0:(v514)=j') (q1:(v508)=z') (R:Frm) (hR:R.pm=⟨ntOf Tryz.prog 5,[],[]⟩):Goes (KN w0) Tryz.prog R (lp Tryz.prog 5 1) (FL [pLs cVal l,pI v1,pI v2,pLs cVal v5,pI v7,pS x9001,pS (lfO v8),pB (bdO v8),pI v9,pI v10,pB v11,pI v13,pI j,pS (lfO z),pB (bdO z)] []) zpj .n (FL [pLs cVal l,pI v1,pI v2,pLs cVal v5,pI v7,pS x9001,pS (lfO v8),pB (bdO v8),pI v9,pI v10,pB v11,pI v13,pI j',pS (lfO z'),pB (bdO z')] []) zpj:=
 goes (x:=.n) (y:=.n) (Fb:=FL [pLs cVal l,pI v1,pI v2,pLs cVal v5,pI v7,pS x9001,pS (lfO v8),pB (bdO v8),pI v9,pI v10,pB v11,pI v13,pI j,pS (lfO z),pB (bdO z),pB v501,pP (cVal x504),pV (.int .u8 x504.1),pI x504.2.1,pS x504.2.2.1,pLs cI x504.2.2.2.1,pI x504.2.2.2.2.1.1,pI x504.2.2.2.2.1.2.1,pI x504.2.2.2.2.1.2.2,pLs cPl x504.2.2.2.2.2.1,pLs cI x504.2.2.2.2.2.2,pB v507,pS (lfO v508),pB (bdO v508),pB v510,pB v512,pI v514] []) (stb:=zpj) (tl:=(.sl 0 (yh 3)::.sl 3 (.o (.c (.k (.bool true))))::.sl 4 (yh 5)::.sl 7 (.o (.c (.p 1014 0)))::.sl 10 (.o (.c (.k (.bool true))))::.sl 11 (yh 0)::.sl 12 (yh 0)::.sl 13 (yh 1)::.sl 14 (yh 2)::.sl 15 (yh 3)::.sl 16 (yh 3)::.sl 17 (yh 4)::.sl 29 (yh 5)::.sl 30 (.o (.c (.p 1014 0)))::.sl 31 (.o (.c (.p 1014 0)))::.sl 32 (.o (.c (.k (.bool false))))::.sl 33 (.o (.c (.k (.bool false))))::.sl 34 (.o (.c (.p 1014 0)))::.sl 35 (yh 8)::.sl 36 (yh 5)::.sl 37 (yh 9)::.sl 38 (yh 10)::.sl 39 (yh 10)::.sl 40 (yh 3)::.sl 41 (yh 11)::.sl 42 (yh 31)::.bx 1014 62 [.h 27,.h 28]::[]:List Atom)) (C:=((10010,.fb 10 false) ::
  (1005000,.bin .lss 3 (yh 12) (yh 11) (yh 15)) ::
  (10015,.fb 15 true) ::
  (1005001,.op (.ia 52) [yh 3,yh 12] [] (yh 16)) ::
  (1005002,.op (.ld 27) [yh 16] [] (.o (.g [.h 17,.h 18,.h 19,.h 20,.h 21,.h 22,.h 23,.h 24,.h 25]))) ::
  (1005009,.call ⟨25,[.o (.g [.h 17,.h 18,.h 19,.h 20,.h 21,.h 22,.h 23,.h 24,.h 25]),.o (.c (.p 1014 0)),yh 17],[.bx 1014 62 [.h 13,.h 14]],yh 26,[.bx 1014 62 [.h 27,.h 28]]⟩) ::
  (1005010,.un .not (yh 26) (yh 29)) ::
  (10029,.fb 29 false) ::
  (1005013,.call ⟨23,[.o (.c (.p 1014 0))],[.bx 1014 62 [.h 27,.h 28]],yh 30,[.bx 1014 62 [.h 27,.h 28]]⟩) ::
  (10030,.fb 30 false) ::
  (1005015,.bin .add 3 (yh 12) (LF (.k (.int .i64 1))) (yh 31)) ::
  []:List (Nat×Ent))) (H:=.no) 5000 (zipA.imp ⟨z_c yy,z_c yy,z_c yy,z_c yy,z_c yy,z_c yy,z_c yy,z_c yy,z_c yy,z_c yy,z_c yy,z_c yy,z_c yy,z_c yy,z_c yy,z_c yy,z_c yy,z_c yy,z_c yy,z_c yy,z_c yy,z_c yy,z_c yy,z_c yy,z_c yy,z_c yy,z_b ⟨yy,yy,trivial⟩,trivial⟩) (zf ⟨(zt zwL),zb,zb,(zt zwL),zb,zb,zb,zb,zb,zb,zb,zb,zb,zb,zb,zb,(zbf (zwL _)),zb,zb,zb,(zt zo),zb,zb,zb,(zt zx),(zt zo),zb,zb,zb,zb,zb,zb,trivial⟩) ⟨e_fbv h12,
  e_bin (za rfl) (za rfl) (za rfl) (r_cmp (congrArg some e501)),
  e_fbv h502,
  e_iaL (E:=27) (z:=9) (fun _=>rfl) (by kernel_rfl) (by kernel_rfl) (zc rfl) (za rfl) s505 s506 (zc rfl),
  e_ldG (by kernel_rfl) (by kernel_rfl) (zc rfl) rfl rfl rfl,
  b_con (pan:=false) (zwy hM hTS x504 x504.1 z v507 v508 e507 e508 s509),
  e_un (za rfl) (za rfl) (fun W=>by rw [← e510];exact r_not W),
  e_fbv h511,
  b_con (pan:=false) (w_bad v508 v512 e512),
  e_fbv h513,
  e_bin (za rfl) zd (za rfl) (r_ar (congrArg some e514)),
  trivial⟩ mixed hR trivial (fun _ _ _ hs=>by cases hs) (by kernel_rfl:zz (KN w0) Tryz.prog _ .no ⟨ntOf Tryz.prog 5,[],[]⟩ (lp Tryz.prog 5 1) 5000 zpj .n (.sl 0 (yh 3)::.sl 3 (.o (.c (.k (.bool true))))::.sl 4 (yh 5)::.sl 7 (.o (.c (.p 1014 0)))::.sl 10 (.o (.c (.k (.bool true))))::.sl 11 (yh 0)::.sl 12 (yh 0)::.sl 13 (yh 1)::.sl 14 (yh 2)::.sl 15 (yh 3)::.sl 16 (yh 3)::.sl 17 (yh 4)::.sl 29 (yh 5)::.sl 30 (.o (.c (.p 1014 0)))::.sl 31 (.o (.c (.p 1014 0)))::.sl 32 (.o (.c (.k (.bool false))))::.sl 33 (.o (.c (.k (.bool false))))::.sl 34 (.o (.c (.p 1014 0)))::.sl 35 (yh 8)::.sl 36 (yh 5)::.sl 37 (yh 9)::.sl 38 (yh 10)::.sl 39 (yh 10)::.sl 40 (yh 3)::.sl 41 (yh 11)::.sl 42 (yh 31)::.bx 1014 62 [.h 27,.h 28]::[]:List Atom)=true) rfl (zipA.imp ⟨z_c yy,z_c yy,z_c yy,z_c yy,z_c yy,z_c yy,z_c yy,z_c yy,z_c yy,z_c yy,z_c yy,z_c yy,z_c yy,z_c yy,z_c yy,z_c yy,z_c yy,z_c yy,z_c yy,z_c yy,z_c yy,z_c yy,z_c yy,z_c yy,z_c yy,z_c (fun β v W h=>(zc rfl β v W).2 (by rw [← q0];exact h)),z_b ⟨fun β v W h=>(zc rfl β v W).2 (by rw [← q1];exact h),fun β v W h=>(zc rfl β v W).2 (by rw [← q1];exact h),trivial⟩,trivial⟩)
theorem zv8 {w0:World} (hM:LM w0) (hTS:LS w0) (l:(List Val)) (v1:Int) (v2:Int) (n3:Nat) (v5:(List Val)) (v7:Int) (x9001:(List UInt8)) (v8:St) (v9:Int) (v10:Int) (v11:Bool) (v13:Int) (h12:v11=false) (j:Int) (z:St) (v501:Bool) (e501:(decide (j<v13))=v501) (h502:v501=false) (x9002:St) (F:Fact) (u0:F.c 0=pLs cVal l) (u1:F.c 1=pI v1) (u2:F.c 2=pI v2) (u3:F.c 3=pLs cVal v5) (u4:F.c 4=pI v7) (u5:F.c 5=pS x9001) (u6:F.c 6=pS (lfO v8)) (u7:F.c 7=pB (bdO v8)) (u8:F.c 8=pI v9) (u9:F.c 9=pI v10) (u10:F.c 10=pB v11) (u11:F.c 11=pI v13) (u12:F.c 12=pS (lfO x9002)) (u13:F.c 13=pB (bdO x9002)) (q0:(z)=x9002) (R:Frm) (hR:R.pm=⟨ntOf Tryz.prog 5,[],[]⟩):Goes (KN w0) Tryz.prog R (lp Tryz.prog 5 1) (FL [pLs cVal l,pI v1,pI v2,pLs cVal v5,pI v7,pS x9001,pS (lfO v8),pB (bdO v8),pI v9,pI v10,pB v11,pI v13,pI j,pS (lfO z),pB (bdO z)] []) zpj (.x 2) F zq3.out:=
 goes (x:=(.x 2)) (y:=(.x 2)) (Fb:=FL [pLs cVal l,pI v1,pI v2,pLs cVal v5,pI v7,pS x9001,pS (lfO v8),pB (bdO v8),pI v9,pI v10,pB v11,pI v13,pI j,pS (lfO z),pB (bdO z),pB v501] []) (stb:=zpj) (tl:=(.sl 0 (yh 3)::.sl 3 (.o (.c (.k (.bool true))))::.sl 4 (yh 5)::.sl 7 (.o (.c (.p 1014 0)))::.sl 10 (.o (.c (.k (.bool true))))::.sl 11 (yh 0)::.sl 12 (yh 0)::.sl 13 (yh 1)::.sl 14 (yh 2)::.sl 15 (yh 3)::.sl 16 (yh 3)::.sl 17 (yh 4)::.sl 29 (yh 5)::.sl 30 (.o (.c (.p 1014 0)))::.sl 31 (.o (.c (.p 1014 0)))::.sl 32 (.o (.c (.k (.bool false))))::.sl 33 (.o (.c (.k (.bool false))))::.sl 34 (.o (.c (.p 1014 0)))::.sl 35 (yh 8)::.sl 36 (yh 5)::.sl 37 (yh 9)::.sl 38 (yh 10)::.sl 39 (yh 10)::.sl 40 (yh 3)::.sl 41 (yh 11)::.bx 1014 62 [.h 13,.h 14]::[]:List Atom)) (C:=((10010,.fb 10 false) ::
  (1005000,.bin .lss 3 (yh 12) (yh 11) (yh 15)) ::
  (10015,.fb 15 false) ::
  []:List (Nat×Ent))) (H:=.no) 5000 (zipA.imp ⟨z_c yy,z_c yy,z_c yy,z_c yy,z_c yy,z_c yy,z_c yy,z_c yy,z_c yy,z_c yy,z_c yy,z_c yy,z_c yy,z_c yy,z_c yy,z_c yy,z_c yy,z_c yy,z_c yy,z_c yy,z_c yy,z_c yy,z_c yy,z_c yy,z_c yy,z_c yy,z_b ⟨yy,yy,trivial⟩,trivial⟩) (zf ⟨(zt zwL),zb,zb,(zt zwL),zb,zb,zb,zb,zb,zb,zb,zb,zb,zb,zb,zb,trivial⟩) ⟨e_fbv h12,
  e_bin (za rfl) (za rfl) (za rfl) (r_cmp (congrArg some e501)),
  e_fbv h502,
  trivial⟩ mixed hR trivial (fun _ _ _ hs=>by cases hs) (by kernel_rfl:zz (KN w0) Tryz.prog _ .no ⟨ntOf Tryz.prog 5,[],[]⟩ (lp Tryz.prog 5 1) 5000 zpj (.x 2) (.sl 0 (yh 3)::.sl 3 (.o (.c (.k (.bool true))))::.sl 4 (yh 5)::.sl 7 (.o (.c (.p 1014 0)))::.sl 10 (.o (.c (.k (.bool true))))::.sl 11 (yh 0)::.sl 12 (yh 0)::.sl 13 (yh 1)::.sl 14 (yh 2)::.sl 15 (yh 3)::.sl 16 (yh 3)::.sl 17 (yh 4)::.sl 29 (yh 5)::.sl 30 (.o (.c (.p 1014 0)))::.sl 31 (.o (.c (.p 1014 0)))::.sl 32 (.o (.c (.k (.bool false))))::.sl 33 (.o (.c (.k (.bool false))))::.sl 34 (.o (.c (.p 1014 0)))::.sl 35 (yh 8)::.sl 36 (yh 5)::.sl 37 (yh 9)::.sl 38 (yh 10)::.sl 39 (yh 10)::.sl 40 (yh 3)::.sl 41 (yh 11)::.bx 1014 62 [.h 13,.h 14]::[]:List Atom)=true) rfl (zipA.imp ⟨z_c (fun β v W h=>(zc u3 β v W).2 h),z_c yy,z_c (fun β v W h=>(zc u5 β v W).2 h),z_c yy,z_c yy,z_c (fun β v W h=>(zc u0 β v W).2 h),z_c (fun β v W h=>(zc u0 β v W).2 h),z_c (fun β v W h=>(zc u1 β v W).2 h),z_c (fun β v W h=>(zc u2 β v W).2 h),z_c (fun β v W h=>(zc u3 β v W).2 h),z_c (fun β v W h=>(zc u3 β v W).2 h),z_c (fun β v W h=>(zc u4 β v W).2 h),z_c (fun β v W h=>(zc u5 β v W).2 h),z_c yy,z_c yy,z_c yy,z_c yy,z_c yy,z_c (fun β v W h=>(zc u8 β v W).2 h),z_c (fun β v W h=>(zc u5 β v W).2 h),z_c (fun β v W h=>(zc u9 β v W).2 h),z_c (fun β v W h=>(zc u10 β v W).2 h),z_c (fun β v W h=>(zc u10 β v W).2 h),z_c (fun β v W h=>(zc u3 β v W).2 h),z_c (fun β v W h=>(zc u11 β v W).2 h),z_b ⟨fun β v W h=>(zc u12 β v W).2 (by rw [← q0];exact h),fun β v W h=>(zc u13 β v W).2 (by rw [← q0];exact h),trivial⟩,trivial⟩)
def zwD (l:(List Val)) (v1:Int) (v2:Int) (n3:Nat) (v5:(List Val)) (v7:Int) (x9001:(List UInt8)) (v8:St) (v9:Int) (v10:Int) (v11:Bool) (v13:Int) (t:wb_b_T) (x9002:St):Prop:=(∃(v501:Bool),((decide (t.j<v13))=v501)∧(v501=false)∧((t.z)=x9002)∧True)
def zwC (l:(List Val)) (v1:Int) (v2:Int) (n3:Nat) (v5:(List Val)) (v7:Int) (x9001:(List UInt8)) (v8:St) (v9:Int) (v10:Int) (v11:Bool) (v13:Int) (t t':wb_b_T):Prop:=(∃(v501:Bool),∃(n503:Nat),∃(x504:Val),∃(v507:Bool),∃(v508:St),∃(v510:Bool),∃(v512:Bool),∃(v514:Int),((decide (t.j<v13))=v501)∧((readB ((x504.1:Int).tmod 6) x504 t.z)=v507)∧((callS ((x504.1:Int).tmod 6) t.z)=v508)∧((!v507)=v510)∧((bdO v508)=v512)∧((IntKind.i64.wrap (t.j+(1:Int)))=v514)∧(v501=true)∧(t.j=(n503:Int))∧(v5[n503]?=some x504)∧(leftN t.z≤1000000)∧(v510=false)∧(v512=false)∧((v514)=t'.j)∧((v508)=t'.z)∧True)
theorem zuF {w0:World} (hM:LM w0) (hTS:LS w0) (l:(List Val)) (v1:Int) (v2:Int) (n3:Nat) (v5:(List Val)) (v7:Int) (x9001:(List UInt8)) (v8:St) (v9:Int) (v10:Int) (v11:Bool) (v13:Int) (h12:v11=false) (x9002:St) {F:Fact} (u0:F.c 0=pLs cVal l) (u1:F.c 1=pI v1) (u2:F.c 2=pI v2) (u3:F.c 3=pLs cVal v5) (u4:F.c 4=pI v7) (u5:F.c 5=pS x9001) (u6:F.c 6=pS (lfO v8)) (u7:F.c 7=pB (bdO v8)) (u8:F.c 8=pI v9) (u9:F.c 9=pI v10) (u10:F.c 10=pB v11) (u11:F.c 11=pI v13) (u12:F.c 12=pS (lfO x9002)) (u13:F.c 13=pB (bdO x9002)) (R:Frm) (hR:R.pm=⟨ntOf Tryz.prog 5,[],[]⟩) (J:wb_b_T→Prop) (m:wb_b_T→Nat) (hJ:J { j:=(0:Int),z:=v8 }) (rounds:∀t,J t→zwD l v1 v2 n3 v5 v7 x9001 v8 v9 v10 v11 v13 t x9002∨∃t',zwC l v1 v2 n3 v5 v7 x9001 v8 v9 v10 v11 v13 t t'∧m t'<m t∧J t'):zg (KN w0) Tryz.prog F R zq3 (lp Tryz.prog 5 1):=by
 refine zP (T:=wb_b_T) (fun t=>FL [pLs cVal l,pI v1,pI v2,pLs cVal v5,pI v7,pS x9001,pS (lfO v8),pB (bdO v8),pI v9,pI v10,pB v11,pI v13,pI t.j,pS (lfO t.z),pB (bdO t.z)] []) J m { j:=(0:Int),z:=v8 } zpj hJ (zipA.imp ⟨z_c (fun β v W h=>(zc u3 β v W).1 h),z_c yy,z_c (fun β v W h=>(zc u5 β v W).1 h),z_c yy,z_c yy,z_c (fun β v W h=>(zc u0 β v W).1 h),z_c (fun β v W h=>(zc u0 β v W).1 h),z_c (fun β v W h=>(zc u1 β v W).1 h),z_c (fun β v W h=>(zc u2 β v W).1 h),z_c (fun β v W h=>(zc u3 β v W).1 h),z_c (fun β v W h=>(zc u3 β v W).1 h),z_c (fun β v W h=>(zc u4 β v W).1 h),z_c (fun β v W h=>(zc u5 β v W).1 h),z_c yy,z_c yy,z_c yy,z_c yy,z_c yy,z_c (fun β v W h=>(zc u8 β v W).1 h),z_c (fun β v W h=>(zc u5 β v W).1 h),z_c (fun β v W h=>(zc u9 β v W).1 h),z_c (fun β v W h=>(zc u10 β v W).1 h),z_c (fun β v W h=>(zc u10 β v W).1 h),z_c (fun β v W h=>(zc u3 β v W).1 h),z_c (fun β v W h=>(zc u11 β v W).1 h),z_c yy,z_b ⟨fun β v W h=>(zc u6 β v W).1 h,fun β v W h=>(zc u7 β v W).1 h,trivial⟩,trivial⟩) rfl fun t ht=>?_
 rcases rounds t ht with hz_ | ⟨t',hz_,hm_,hj_⟩
 ·refine .inl ?_
  rcases hz_ with ⟨v501,e501,h502,q0,_⟩
  ·exact zv8 hM hTS l v1 v2 n3 v5 v7 x9001 v8 v9 v10 v11 v13 h12 t.j t.z v501 e501 h502 x9002 F u0 u1 u2 u3 u4 u5 u6 u7 u8 u9 u10 u11 u12 u13 q0 R hR
 ·refine .inr ⟨t',hm_,hj_,?_⟩
  rcases hz_ with ⟨v501,n503,x504,v507,v508,v510,v512,v514,e501,e507,e508,e510,e512,e514,h502,s505,s506,s509,h511,h513,q0,q1,_⟩
  ·exact zv7 hM hTS l v1 v2 n3 v5 v7 x9001 v8 v9 v10 v11 v13 h12 t.j t.z v501 n503 x504 v507 v508 v510 v512 v514 e501 e507 e508 e510 e512 e514 h502 s505 s506 s509 h511 h513 t'.j t'.z q0 q1 R hR
theorem zv6 {w0:World} (hM:LM w0) (hTS:LS w0) (l:(List Val)) (v1:Int) (v2:Int) (n3:Nat) (v5:(List Val)) (v7:Int) (x9001:(List UInt8)) (v8:St) (v9:Int) (v10:Int) (v11:Bool) (v13:Int) (h12:v11=false) (x9002:St) {F:Fact} (u0:F.c 0=pLs cVal l) (u1:F.c 1=pI v1) (u2:F.c 2=pI v2) (u3:F.c 3=pLs cVal v5) (u4:F.c 4=pI v7) (u5:F.c 5=pS x9001) (u6:F.c 6=pS (lfO v8)) (u7:F.c 7=pB (bdO v8)) (u8:F.c 8=pI v9) (u9:F.c 9=pI v10) (u10:F.c 10=pB v11) (u11:F.c 11=pI v13) (u12:F.c 12=pS (lfO x9002)) (u13:F.c 13=pB (bdO x9002)) (R:Frm) (hR:R.pm=⟨ntOf Tryz.prog 5,[],[]⟩) (h13:(v5.length:Int)=v13) (hok:∀x∈v5,OkV x) (h8:v5.length≤8) (hz0:v8=some (v5.flatMap by1)) (hO:some []=x9002):zg (KN w0) Tryz.prog F R zq3 (lp Tryz.prog 5 1):=by
 refine zuF hM hTS l v1 v2 n3 v5 v7 x9001 v8 v9 v10 v11 v13 h12 x9002 u0 u1 u2 u3 u4 u5 u6 u7 u8 u9 u10 u11 u12 u13 R hR (fun ⟨j,z⟩=>∃n:Nat,j=(n:Int)∧n≤v5.length∧z=some ((v5.drop n).flatMap by1)) (fun ⟨j,z⟩=>((v5.length:Int) - j).toNat) ⟨0,rfl,Nat.zero_le _,by rw [hz0];rfl⟩ fun t hJ=>?_
 obtain ⟨j,z⟩:=t
 dsimp only at hJ
 obtain ⟨n,hi,hn,hz⟩:=hJ
 have hzl:leftN z≤1000000:=by rw [hz];exact Nat.le_trans (zsJ (fun x hx=>hok x (List.mem_of_mem_drop hx)) (by rw [List.length_drop];omega)) (by decide)
 obtain ⟨v501,e501⟩:∃v,(decide (j<v13))=v:=⟨_,rfl⟩
 cases h502:v501 with
 | true =>
  obtain ⟨n503,x504,s505,s506⟩:∃(n503:Nat) (x504:Val),j=(n503:Int)∧v5[n503]?=some x504:=by (have d1:=of_decide_eq_true (e501.trans h502);have hlt:n<v5.length:=(by omega);exact ⟨n,v5[n],hi,List.getElem?_eq_getElem hlt⟩)
  obtain ⟨v507,e507⟩:∃v,(readB ((x504.1:Int).tmod 6) x504 z)=v:=⟨_,rfl⟩
  obtain ⟨v508,e508⟩:∃v,(callS ((x504.1:Int).tmod 6) z)=v:=⟨_,rfl⟩
  have s509:leftN z≤1000000:=by exact hzl
  obtain ⟨v510,e510⟩:∃v,(!v507)=v:=⟨_,rfl⟩
  cases h511:v510 with
  | true =>
   exfalso
   have d1:=of_decide_eq_true (e501.trans h502)
   have hnn:n503=n:=(by have t:=s505;omega);subst hnn;have g0:=s506
   have q:=zsf (x504.1.tmod 6) (hok _ (List.mem_of_getElem? g0)) ((v5.drop (n503+1)).flatMap by1)
   have hz2:z=some (byV (x504.1.tmod 6) x504++(v5.drop (n503+1)).flatMap by1):=by rw [hz,zqo g0];rfl
   have q1:=q.1
   have q2:=q.2
   rw [← hz2] at q1 q2
   rw [e507] at q2
   clear hz hz2 q
   simp_all [bdO]
  | false =>
   obtain ⟨v512,e512⟩:∃v,(bdO v508)=v:=⟨_,rfl⟩
   cases h513:v512 with
   | true =>
    exfalso
    have d1:=of_decide_eq_true (e501.trans h502)
    have hnn:n503=n:=(by have t:=s505;omega);subst hnn;have g0:=s506
    have q:=zsf (x504.1.tmod 6) (hok _ (List.mem_of_getElem? g0)) ((v5.drop (n503+1)).flatMap by1)
    have hz2:z=some (byV (x504.1.tmod 6) x504++(v5.drop (n503+1)).flatMap by1):=by rw [hz,zqo g0];rfl
    have q1:=q.1
    have q2:=q.2
    rw [← hz2] at q1 q2
    rw [e507] at q2
    rw [e508] at q1
    have q3:=e512
    rw [q1] at q3
    clear hz hz2 q
    simp_all [bdO]
   | false =>
    obtain ⟨v514,e514⟩:∃v,(IntKind.i64.wrap (j+(1:Int)))=v:=⟨_,rfl⟩
    refine .inr ⟨⟨v514,v508⟩,⟨v501,n503,x504,v507,v508,v510,v512,v514,e501,e507,e508,e510,e512,e514,h502,s505,s506,s509,h511,h513,rfl,rfl,trivial⟩,?_,?_⟩
    all_goals (have d1:=of_decide_eq_true (e501.trans h502);have hnn:n503=n:=(by have t:=s505;omega);subst hnn;have g0:=s506;have x4:v514=((n503+1:Nat):Int):=(by rw [← e514,hi,wri (by omega)];omega))
    ·show ((v5.length:Int) - v514).toNat<((v5.length:Int) - j).toNat
     omega
    ·exact ⟨n503+1,x4,by omega,by rw [← e508,hz,zqo g0];exact (zsf _ (hok _ (List.mem_of_getElem? g0)) _).1⟩
 | false =>
  refine .inl (⟨v501,e501,h502,?_,trivial⟩)
  (have d1:=of_decide_eq_false (e501.trans h502);have hnn:n=v5.length:=(by omega);rw [hz,← hO,hnn,List.drop_length];rfl)
theorem zrt {w0:World} (l:(List Val)) (hM:LM w0) (hTS:LS w0) (v1:Int) (v2:Int) (n3:Nat) (v5:(List Val)) (v7:Int) (x9001:(List UInt8)) (v8:St) (v9:Int) (v10:Int) (v11:Bool) (v13:Int) (x9002:St) (v14:Int) (v15:Bool) (e1:((l.length:Int))=v1) (e2:((if (8:Int)<v1 then (8:Int) else v1))=v2) (e5:(l.take n3)=v5) (e7:((v5.length:Int))=v7) (e8:(some x9001)=v8) (e9:((leftN v8:Int))=v9) (e10:(((x9001:List UInt8).length:Int))=v10) (e11:((v9 != v10))=v11) (e13:((v5.length:Int))=v13) (e14:((leftN x9002:Int))=v14) (e15:((v14 == (0:Int)))=v15) (s4:v2=(n3:Int)) (s6:n3≤l.length) (h12:v11=false) (L_wb_a:∀R:Frm,R.pm=⟨ntOf Tryz.prog 5,[],[]⟩→zg (KN w0) Tryz.prog (FL [pLs cVal l,pI v1,pI v2,pLs cVal v5,pI v7,pS x9001,pS (lfO v8),pB (bdO v8),pI v9,pI v10,pB v11,pI v13,pS (lfO x9002),pB (bdO x9002),pI v14,pB v15] []) R zq2 (lp Tryz.prog 5 0)) (L_wb_b:∀R:Frm,R.pm=⟨ntOf Tryz.prog 5,[],[]⟩→zg (KN w0) Tryz.prog (FL [pLs cVal l,pI v1,pI v2,pLs cVal v5,pI v7,pS x9001,pS (lfO v8),pB (bdO v8),pI v9,pI v10,pB v11,pI v13,pS (lfO x9002),pB (bdO x9002),pI v14,pB v15] []) R zq3 (lp Tryz.prog 5 1)):Fun (KN w0) Tryz.prog 5 [.o (.c (pLs cVal l))] (.o (.c (pB v15))):=
 zi (z8 (F:=FL [pLs cVal l,pI v1,pI v2,pLs cVal v5,pI v7,pS x9001,pS (lfO v8),pB (bdO v8),pI v9,pI v10,pB v11,pI v13,pS (lfO x9002),pB (bdO x9002),pI v14,pB v15] []) (C:=[(1000001,.call ⟨9,[],[],.o (.c (.k (.bool true))),[]⟩),
  (1000005,.op (.len [52] 3) [yh 0] [] (yh 1)),
  (1000006,.op (.min [3,3] 3) [yh 1,LF (.k (.int .i64 8))] [] (yh 2)),
  (1000007,.op (.sc 52 false true false) [yh 0,yh 2] [] (yh 3)),
  (1000011,.op (.len [52] 3) [yh 3] [] (yh 4)),
  (1001014,.neu 18 [yh 5] 62 [.h 6,.h 7]),
  (1001017,.bin .eql 45 (LF (.p 1014 0)) (LF (.k (.pointer none))) (LF (.k (.bool false)))),
  (1001020,.call ⟨21,[.o (.c (.p 1014 0))],[.bx 1014 62 [.h 6,.h 7]],yh 8,[.bx 1014 62 [.h 6,.h 7]]⟩),
  (1001022,.op (.len [9] 3) [yh 5] [] (yh 9)),
  (1001023,.bin .neq 3 (yh 8) (yh 9) (yh 10)),
  (10010,.fb 10 false),
  (1001026,.op (.len [52] 3) [yh 3] [] (yh 11)),
  (1002031,.call ⟨21,[.o (.c (.p 1014 0))],[.bx 1014 62 [.h 12,.h 13]],yh 14,[.bx 1014 62 [.h 12,.h 13]]⟩),
  (1002032,.bin .eql 3 (yh 14) (LF (.k (.int .i64 0))) (yh 15))]) (k:=⟨5,[yh 0],[],yh 15,[]⟩) ⟨[zq2,zq3],[],0⟩ [] 0 (zf ⟨(zt zwL),zb,zb,(zt zwL),zb,zb,zb,zb,zb,zb,zb,zb,zb,zb,zb,zb,trivial⟩) ⟨ze (zma hM hTS),
  qp (E:=27) (by kernel_rfl) (zc rfl) (za (by rw [← e1];rfl)),
  e_op2 (za rfl) zd (za rfl) (fun W=>by rw [← e2];exact zmz W),
  zq9 (E:=27) (z:=9) (fun _=>rfl) (by kernel_rfl) (by kernel_rfl) (zc rfl) (za rfl) s4 s6 (zc (by rw [e5];rfl)),
  qp (E:=27) (by kernel_rfl) (zc rfl) (za (by rw [← e7];rfl)),
  zbk (zff x9001 v8 e8) rfl rfl rfl rfl,
  zjh (by kernel_rfl),
  b_con (pan:=false) (zcU v8 v9 e9),
  e_op1 (za rfl) (za rfl) (fun W=>by rw [← e10];exact zhL (by kernel_rfl) W),
  e_bin (za rfl) (za rfl) (za rfl) (r_cmp (congrArg some e11)),
  e_fbv h12,
  qp (E:=27) (by kernel_rfl) (zc rfl) (za (by rw [← e13];rfl)),
  b_con (pan:=false) (zcU x9002 v14 e14),
  e_bin (za rfl) zd (za rfl) (r_cmp (congrArg some e15)),
  trivial⟩ mixed trivial (fun R hR p hp s hs=>by
 have hl:zH (qg Tryz.prog 5)=[(5,lp Tryz.prog 5 0),(13,lp Tryz.prog 5 1)]:=by kernel_rfl
 rw [hl] at hp
 simp only [List.mem_cons,List.not_mem_nil,or_false] at hp
 rcases hp with rfl | rfl
 ·have e:s=zq2:=(Option.some.inj hs).symm
  subst e;exact L_wb_a R hR
 ·have e:s=zq3:=(Option.some.inj hs).symm
  subst e;exact L_wb_b R hR) (by kernel_rfl))
theorem zrq (l:(List Val)) (hok:∀x∈l,OkV x) (hlb:l.length<9223372036854775808) :((if (8:Int)<((l.length:Int)) then (8:Int) else ((l.length:Int))))=(((min l.length 8:Nat)):Int):=by split<;>omega
theorem zrr (l:(List Val)) (hok:∀x∈l,OkV x) (hlb:l.length<9223372036854775808) :((min l.length 8:Nat))≤l.length:=by first | omega | rfl
theorem zpH (l:(List Val)) (hok:∀x∈l,OkV x) (hlb:l.length<9223372036854775808) :(((((leftN (some (((l.take ((min l.length 8:Nat))).flatMap by1))):Int)) != ((((((l.take ((min l.length 8:Nat))).flatMap by1)):List UInt8).length:Int)))))=false:=by simp [leftN]
theorem zrs (l:(List Val)) (hok:∀x∈l,OkV x) (hlb:l.length<9223372036854775808) :(((leftN ((some []:St)):Int)) == (0:Int))=true:=by rfl
theorem ztG {w0:World} (hM:LM w0) (hTS:LS w0) (l:(List Val)) (hok:∀x∈l,OkV x) (hlb:l.length<9223372036854775808):Fun (KN w0) Tryz.prog 5 [.o (.c (pLs cVal l))] (.o (.c (pV (.bool true)))):=by
 exact zrt l hM hTS _ _ ((min l.length 8:Nat)) _ _ (((l.take ((min l.length 8:Nat))).flatMap by1)) _ _ _ _ _ ((some []:St)) _ _ rfl rfl rfl rfl rfl rfl rfl rfl rfl rfl (zrs l hok hlb ) (zrq l hok hlb ) (zrr l hok hlb ) (zpH l hok hlb ) (fun R hR=>zv3 hM hTS l ((l.length:Int)) ((if (8:Int)<((l.length:Int)) then (8:Int) else ((l.length:Int)))) ((min l.length 8:Nat)) (l.take ((min l.length 8:Nat))) (((l.take ((min l.length 8:Nat))).length:Int))  (((l.take ((min l.length 8:Nat))).flatMap by1)) rfl rfl rfl rfl rfl rfl R hR rfl (fun x hx=>hok x (List.mem_of_mem_take hx)) (tk8 l) rfl) (fun R hR=>zv6 hM hTS l ((l.length:Int)) ((if (8:Int)<((l.length:Int)) then (8:Int) else ((l.length:Int)))) ((min l.length 8:Nat)) (l.take ((min l.length 8:Nat))) (((l.take ((min l.length 8:Nat))).length:Int)) (((l.take ((min l.length 8:Nat))).flatMap by1)) (some (((l.take ((min l.length 8:Nat))).flatMap by1))) ((leftN (some (((l.take ((min l.length 8:Nat))).flatMap by1))):Int)) ((((((l.take ((min l.length 8:Nat))).flatMap by1)):List UInt8).length:Int)) ((((leftN (some (((l.take ((min l.length 8:Nat))).flatMap by1))):Int)) != ((((((l.take ((min l.length 8:Nat))).flatMap by1)):List UInt8).length:Int)))) (((l.take ((min l.length 8:Nat))).length:Int)) (zpH l hok hlb ) ((some []:St)) rfl rfl rfl rfl rfl rfl rfl rfl rfl rfl rfl rfl rfl rfl R hR rfl (fun x hx=>hok x (List.mem_of_mem_take hx)) (tk8 l) rfl rfl)
end Go.Proofs.YtjcegdldgjphiaaGreatDoor
namespace Go.Proofs.YtjcegdldgjphiaaGreatDoor
open Go.ChangeShapes Go.WideShapes Go.ChangeAt Go.RowKit Go.Joins Go.Deep
theorem zqI (os:Os) (started:os.Started) (H:Type) (enc:TypeId×Value→H) :
  ReturnsInHanded {} Tryz.checked os 5 .any (fun w args=>(Rows.wireBackSpec.pre enc Tryz.prog Tryz.f5 [] false w args∧laidMetH Tryz.prog laidL w)∧sizedMet enc Tryz.prog Tryz.f5 (OpenSpec.ofChange Rows.wireBackSpec) false w args)
   (Rows.wireBackSpec.post enc Tryz.prog Tryz.f5 false true false false):=by
 refine zhf (C:=Tryz.checked) (X:=fun w _=>laidMetH Tryz.prog laidL w) (fun _ _ _ hh h=>h.of_heap hh) Tryz.own started (by kernel_rfl) Tryz.func5
  (ChangeSpec.witness_shaped (enc:=enc) (C:=Tryz.checked) (os:=os) (X:=fun w _=>laidMetH Tryz.prog laidL w) false (World.doorLaid Tryz.prog 400 os) #[.slice none 0 0] 8 rfl (World.shaped_of_RefB (by kernel_rfl) (by kernel_rfl)) (by kernel_rfl) (by kernel_rfl) (by kernel_rfl) (zk1 os _)) ?_
 intro W base args ds gs before hval0 hW hL hsh
 have hval:∀(j:Nat) t v,Tryz.f5.params[j]?=some t→args[j]?=some v→Value.okWide Tryz.prog W .any base t v:=hval0
 have hW':=hW
 obtain ⟨p,q,hA0,hV,rfl,hfz,hnd⟩:=hW
 have hA:DataW.TrodAll enc Tryz.prog W 0 (fun _=>true) true Tryz.f5.params.toList args.toList ds p:=hA0
 rw [Tryz.params5] at hA hval
 obtain ⟨v0,d0,rfl,rfl,h0⟩:=trodAll_one hA
 obtain ⟨A0,n0,c0,rfl⟩:=okWide_slice Tryz.underlying52 (hval 0 52 v0 rfl rfl)
 obtain ⟨x0,a0,s0⟩:=zlo zvP rfl h0
 refine (zm8 (args:=#[.slice A0 n0 c0]) (ztG (zld hsh) (zlb hL) x0 a0.1 (by have:=a0.2;unfold maxLen at this;omega)) ⟨s0,trivial⟩).mono fun e W' ⟨he,hb⟩=>?_
 subst he
 exact ⟨_,rfl,zgM rfl Tryz.laidOut (by decide +kernel) 4 (by kernel_rfl) Tryz.underlying4 (fun d hd=>by match d,hd with | [_],_=>rfl) hW' hb⟩
theorem zqQ:Rows.WireBackSaid:=
 OpenClaim.holds_of_wide 5 Tryz.f5 rfl rfl rfl rfl rfl rfl rfl ⟨rfl,rfl,rfl,rfl,rfl⟩ rfl rfl rfl rfl rfl (by kernel_rfl) Tryz.func5 (by kernel_rfl)
  (of_decide_eq_true (by kernel_rfl)) (by unfold Func.isWrapper;rw [if_neg (of_decide_eq_false (by kernel_rfl))];exact ⟨rfl,rfl⟩)
  (fun os started H enc _=>zqI os started H enc)
theorem wireBack_card:Rows.WireBackCardSaid:=
 Claim7.holds_tied_plain_at .later [] [.data, .data, .data, .sentinel, .sentinel] true (true, "f6d13d20111d2d1024e69384a6477e3c0998475b261181dffc81234b037bb8e9") true
  zqQ (fun _ h=>by cases h) (by kernel_rfl) (fun _ h=>by cases h) wireBack_row_tie rfl ⟨rfl,rfl⟩ (by kernel_rfl) rfl
  (fun f fn hf hfn=>by
   obtain rfl : f = 5 := Option.some.inj ((show Tryz.prog.funcNamed "collet/colletlaw04.WireBack" = some 5 by kernel_rfl).symm.trans hf) |>.symm
   obtain rfl:fn=Tryz.f5:=(Option.some.inj (Tryz.func5.symm.trans hfn)).symm
   exact ⟨by kernel_rfl,fun j t ht=>by
    rw [Tryz.params5] at ht
    have hm:t∈[52]:=by simpa using Array.mem_of_getElem? ht
    have hall:([52].all fun u=>!Tryz.prog.wantsStandIn u)=true:=by kernel_rfl
    exact (show Tryz.prog.wantsStandIn t=false by simpa using List.all_eq_true.1 hall t hm)⟩)
  (by kernel_rfl)
end Go.Proofs.YtjcegdldgjphiaaGreatDoor
