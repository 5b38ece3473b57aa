/-
  Merged: ExE, ExF.
-/
import Derived.Test.YtdkofaajcpcjkaaDoorMeK
set_option linter.unusedSimpArgs false
set_option linter.unusedVariables false
set_option maxRecDepth 100000
namespace Go.Proofs.YtdkofaajcpcjkaaDoor
open Go.RowKit
theorem zdY (e:Xp) (a:Int):chkX e a=if zp e.op e.n e.l.length a≠0 then zp e.op e.n e.l.length a else chkL e.l a:=by cases e;rw [chkX];rfl
def z8 (w0:World) (N:Nat):Prop:=∀(x:Xp) (a v:Int),chkX x a=v→nodes x≤N→Fun (KN w0) Tryd.prog 32 [.o (.g [pI x.op,pI x.n,pLs cE x.l]),.o (.c (pI a))] (.o (.c (pI v)))
structure x_check_A_T where
 i:Int
def zE:List Atom:=[.sl 0 (.o (.g [.h 0,.h 1,.h 2])),.sl 1 (yh 3),.sl 2 (.o (.c (.p 0 0))),.sl 5 (yh 4),.sl 9 (.o (.g [.h 0,.h 1,.h 2])),.sl 10 (yh 3),.sl 11 (yh 4),.sl 12 (yh 4),.sl 13 (yh 5),.sl 15 (.o (.c (.p 0 2))),.sl 16 (yh 2),.sl 17 (yh 6),.sl 18 (yh 7),.bx 0 31 [.h 0,.h 1,.h 2]]
def qQ:LoopS:=⟨5,[.sl 0 (.o (.g [.h 0,.h 1,.h 2])),.sl 1 (yh 3),.sl 2 (.o (.c (.p 0 0))),.sl 5 (yh 4),.sl 9 (.o (.g [.h 0,.h 1,.h 2])),.sl 10 (yh 3),.sl 11 (yh 4),.sl 12 (yh 4),.sl 13 (yh 5),.sl 15 (.o (.c (.p 0 2))),.sl 16 (yh 2),.sl 17 (yh 6),.sl 18 (.o (.c (.k (.int .i64 0)))),.bx 0 31 [.h 0,.h 1,.h 2]],(.x 0),[.sl 0 (.o (.g [.h 0,.h 1,.h 2])),.sl 1 (yh 3),.sl 2 (.o (.c (.p 0 0))),.sl 5 (yh 4),.sl 9 (.o (.g [.h 0,.h 1,.h 2])),.sl 10 (yh 3),.sl 11 (yh 4),.sl 12 (yh 4),.sl 13 (yh 5),.sl 15 (.o (.c (.p 0 2))),.sl 16 (yh 2),.sl 17 (yh 6),.bx 0 31 [.h 0,.h 1,.h 2]]⟩
theorem zcr {w0:World} (e:Xp) (a:Int) (N:Nat) (v1:Int) (v2:Bool) (v4:Int) (IH:z8 w0 N) (h3:v2=false) (i:Int) (v501:Bool) (n503:Nat) (x504:Xp) (v507:Int) (v509:Bool) (v511:Int) (e501:(decide (i<v4))=v501) (e507:(chkX x504 a)=v507) (e509:((v507 != (0:Int)))=v509) (e511:(IntKind.i64.wrap (i+(1:Int)))=v511) (h502:v501=true) (s505:i=(n503:Int)) (s506:e.l[n503]?=some x504) (s508:nodes x504≤N) (h510:v509=false) (i':Int) (q0:(v511)=i') (R:Frm) (hR:R.pm=⟨ntOf Tryd.prog 32,[],[]⟩):Goes (KN w0) Tryd.prog R (lp Tryd.prog 32 0) (FL [pI e.op,pI e.n,pLs cE e.l,pI a,pI v1,pB v2,pI v4,pI i] []) zE .n (FL [pI e.op,pI e.n,pLs cE e.l,pI a,pI v1,pB v2,pI v4,pI i'] []) zE:=
 goes (x:=.n) (y:=.n) (Fb:=FL [pI e.op,pI e.n,pLs cE e.l,pI a,pI v1,pB v2,pI v4,pI i,pB v501,pP (cE x504),pI x504.op,pI x504.n,pLs cE x504.l,pI v507,pB v509,pI v511] []) (stb:=zE) (tl:=[.sl 0 (.o (.g [.h 0,.h 1,.h 2])),.sl 1 (yh 3),.sl 2 (.o (.c (.p 0 0))),.sl 5 (yh 4),.sl 9 (.o (.g [.h 0,.h 1,.h 2])),.sl 10 (yh 3),.sl 11 (yh 4),.sl 12 (yh 4),.sl 13 (yh 5),.sl 15 (.o (.c (.p 0 2))),.sl 16 (yh 2),.sl 17 (yh 6),.sl 18 (yh 15),.bx 0 31 [.h 0,.h 1,.h 2]]) (C:=((10005,.fb 5 false) ::
  (1005000,.bin .lss 3 (yh 7) (yh 6) (yh 8)) ::
  (10008,.fb 8 true) ::
  (1005001,.op (.ia 28) [yh 2,yh 7] [] (yh 9)) ::
  (1005002,.op (.ld 31) [yh 9] [] (.o (.g [.h 10,.h 11,.h 12]))) ::
  (1005007,.call ⟨32,[.o (.g [.h 10,.h 11,.h 12]),yh 3],[],yh 13,[]⟩) ::
  (1005010,.bin .neq 33 (yh 13) (LF (.k (.int .i64 0))) (yh 14)) ::
  (10014,.fb 14 false) ::
  (1005011,.bin .add 3 (yh 7) (LF (.k (.int .i64 1))) (yh 15)) ::
  []:List (Nat×Ent))) (H:=.no) 5000 (zipA.imp ⟨z_g ⟨yy,yy,yy,trivial⟩,z_c yy,z_c yy,z_c yy,z_g ⟨yy,yy,yy,trivial⟩,z_c yy,z_c yy,z_c yy,z_c yy,z_c yy,z_c yy,z_c yy,z_c yy,z_b ⟨yy,yy,yy,trivial⟩,trivial⟩) (zg ⟨za,za,(ze (zf rfl)),za,za,za,za,za,za,(zo ((zf rfl) _)),za,za,(ze (zf rfl)),za,za,za,trivial⟩) ⟨e_fbv h3,
  e_bin (zb rfl) (zb rfl) (zb rfl) (r_cmp (congrArg some e501)),
  e_fbv h502,
  e_iaL (E:=31) (z:=3) zm (by kernel_rfl) (by kernel_rfl) (zc rfl) (zb rfl) s505 s506 (zc rfl),
  e_ldG (by kernel_rfl) (by kernel_rfl) (zc rfl) (cE_eq _).symm rfl (zm _),
  zh (IH x504 a v507 e507 s508),
  e_bin (zb rfl) zd (zb rfl) (r_cmp (congrArg some e509)),
  e_fbv h510,
  e_bin (zb rfl) zd (zb rfl) (r_ar (congrArg some e511)),
  trivial⟩ mixed hR trivial (fun _ _ _ hs=>by cases hs) (by kernel_rfl:zD (KN w0) Tryd.prog _ .no ⟨ntOf Tryd.prog 32,[],[]⟩ (lp Tryd.prog 32 0) 5000 zE .n [.sl 0 (.o (.g [.h 0,.h 1,.h 2])),.sl 1 (yh 3),.sl 2 (.o (.c (.p 0 0))),.sl 5 (yh 4),.sl 9 (.o (.g [.h 0,.h 1,.h 2])),.sl 10 (yh 3),.sl 11 (yh 4),.sl 12 (yh 4),.sl 13 (yh 5),.sl 15 (.o (.c (.p 0 2))),.sl 16 (yh 2),.sl 17 (yh 6),.sl 18 (yh 15),.bx 0 31 [.h 0,.h 1,.h 2]]=true) rfl (zipA.imp ⟨z_g ⟨yy,yy,yy,trivial⟩,z_c yy,z_c yy,z_c yy,z_g ⟨yy,yy,yy,trivial⟩,z_c yy,z_c yy,z_c yy,z_c yy,z_c yy,z_c yy,z_c yy,z_c (fun β v W h=>(zc rfl β v W).2 (by rw [← q0];exact h)),z_b ⟨yy,yy,yy,trivial⟩,trivial⟩)
theorem ze3 {w0:World} (e:Xp) (a:Int) (N:Nat) (v1:Int) (v2:Bool) (v4:Int) (IH:z8 w0 N) (h3:v2=false) (i:Int) (v501:Bool) (e501:(decide (i<v4))=v501) (h502:v501=false) (F:Fact) (u0:F.c 0=pI e.op) (u1:F.c 1=pI e.n) (u2:F.c 2=pLs cE e.l) (u3:F.c 3=pI a) (u4:F.c 4=pI v1) (u5:F.c 5=pB v2) (u6:F.c 6=pI v4) (R:Frm) (hR:R.pm=⟨ntOf Tryd.prog 32,[],[]⟩):Goes (KN w0) Tryd.prog R (lp Tryd.prog 32 0) (FL [pI e.op,pI e.n,pLs cE e.l,pI a,pI v1,pB v2,pI v4,pI i] []) zE (.x 0) F qQ.out:=
 goes (x:=(.x 0)) (y:=(.x 0)) (Fb:=FL [pI e.op,pI e.n,pLs cE e.l,pI a,pI v1,pB v2,pI v4,pI i,pB v501] []) (stb:=zE) (tl:=[.sl 0 (.o (.g [.h 0,.h 1,.h 2])),.sl 1 (yh 3),.sl 2 (.o (.c (.p 0 0))),.sl 5 (yh 4),.sl 9 (.o (.g [.h 0,.h 1,.h 2])),.sl 10 (yh 3),.sl 11 (yh 4),.sl 12 (yh 4),.sl 13 (yh 5),.sl 15 (.o (.c (.p 0 2))),.sl 16 (yh 2),.sl 17 (yh 6),.bx 0 31 [.h 0,.h 1,.h 2]]) (C:=((10005,.fb 5 false) ::
  (1005000,.bin .lss 3 (yh 7) (yh 6) (yh 8)) ::
  (10008,.fb 8 false) ::
  []:List (Nat×Ent))) (H:=.no) 5000 (zipA.imp ⟨z_g ⟨yy,yy,yy,trivial⟩,z_c yy,z_c yy,z_c yy,z_g ⟨yy,yy,yy,trivial⟩,z_c yy,z_c yy,z_c yy,z_c yy,z_c yy,z_c yy,z_c yy,z_c yy,z_b ⟨yy,yy,yy,trivial⟩,trivial⟩) (zg ⟨za,za,(ze (zf rfl)),za,za,za,za,za,za,trivial⟩) ⟨e_fbv h3,
  e_bin (zb rfl) (zb rfl) (zb rfl) (r_cmp (congrArg some e501)),
  e_fbv h502,
  trivial⟩ mixed hR trivial (fun _ _ _ hs=>by cases hs) (by kernel_rfl:zD (KN w0) Tryd.prog _ .no ⟨ntOf Tryd.prog 32,[],[]⟩ (lp Tryd.prog 32 0) 5000 zE (.x 0) [.sl 0 (.o (.g [.h 0,.h 1,.h 2])),.sl 1 (yh 3),.sl 2 (.o (.c (.p 0 0))),.sl 5 (yh 4),.sl 9 (.o (.g [.h 0,.h 1,.h 2])),.sl 10 (yh 3),.sl 11 (yh 4),.sl 12 (yh 4),.sl 13 (yh 5),.sl 15 (.o (.c (.p 0 2))),.sl 16 (yh 2),.sl 17 (yh 6),.bx 0 31 [.h 0,.h 1,.h 2]]=true) rfl (zipA.imp ⟨z_g ⟨fun β v W h=>(zc u0 β v W).2 h,fun β v W h=>(zc u1 β v W).2 h,fun β v W h=>(zc u2 β v W).2 h,trivial⟩,z_c (fun β v W h=>(zc u3 β v W).2 h),z_c yy,z_c (fun β v W h=>(zc u4 β v W).2 h),z_g ⟨fun β v W h=>(zc u0 β v W).2 h,fun β v W h=>(zc u1 β v W).2 h,fun β v W h=>(zc u2 β v W).2 h,trivial⟩,z_c (fun β v W h=>(zc u3 β v W).2 h),z_c (fun β v W h=>(zc u4 β v W).2 h),z_c (fun β v W h=>(zc u4 β v W).2 h),z_c (fun β v W h=>(zc u5 β v W).2 h),z_c yy,z_c (fun β v W h=>(zc u2 β v W).2 h),z_c (fun β v W h=>(zc u6 β v W).2 h),z_b ⟨fun β v W h=>(zc u0 β v W).2 h,fun β v W h=>(zc u1 β v W).2 h,fun β v W h=>(zc u2 β v W).2 h,trivial⟩,trivial⟩)
def zgp (e:Xp) (a:Int) (N:Nat) (v1:Int) (v2:Bool) (v4:Int) (t:x_check_A_T):Prop:=(∃(v501:Bool),((decide (t.i<v4))=v501)∧(v501=false)∧True)
def zc7 (e:Xp) (a:Int) (N:Nat) (v1:Int) (v2:Bool) (v4:Int) (t t':x_check_A_T):Prop:=(∃(v501:Bool),∃(n503:Nat),∃(x504:Xp),∃(v507:Int),∃(v509:Bool),∃(v511:Int),((decide (t.i<v4))=v501)∧((chkX x504 a)=v507)∧(((v507 != (0:Int)))=v509)∧((IntKind.i64.wrap (t.i+(1:Int)))=v511)∧(v501=true)∧(t.i=(n503:Int))∧(e.l[n503]?=some x504)∧(nodes x504≤N)∧(v509=false)∧((v511)=t'.i)∧True)
theorem zdl {w0:World} (e:Xp) (a:Int) (N:Nat) (v1:Int) (v2:Bool) (v4:Int) (IH:z8 w0 N) (h3:v2=false) {F:Fact} (u0:F.c 0=pI e.op) (u1:F.c 1=pI e.n) (u2:F.c 2=pLs cE e.l) (u3:F.c 3=pI a) (u4:F.c 4=pI v1) (u5:F.c 5=pB v2) (u6:F.c 6=pI v4) (R:Frm) (hR:R.pm=⟨ntOf Tryd.prog 32,[],[]⟩) (J:x_check_A_T→Prop) (m:x_check_A_T→Nat) (hJ:J { i:=(0:Int) }) (rounds:∀t,J t→zgp e a N v1 v2 v4 t ∨∃t',zc7 e a N v1 v2 v4 t t'∧m t'<m t∧J t'):zl (KN w0) Tryd.prog F R qQ (lp Tryd.prog 32 0):=by
 refine zB (T:=x_check_A_T) (fun t=>FL [pI e.op,pI e.n,pLs cE e.l,pI a,pI v1,pB v2,pI v4,pI t.i] []) J m { i:=(0:Int) } zE hJ (zipA.imp ⟨z_g ⟨fun β v W h=>(zc u0 β v W).1 h,fun β v W h=>(zc u1 β v W).1 h,fun β v W h=>(zc u2 β v W).1 h,trivial⟩,z_c (fun β v W h=>(zc u3 β v W).1 h),z_c yy,z_c (fun β v W h=>(zc u4 β v W).1 h),z_g ⟨fun β v W h=>(zc u0 β v W).1 h,fun β v W h=>(zc u1 β v W).1 h,fun β v W h=>(zc u2 β v W).1 h,trivial⟩,z_c (fun β v W h=>(zc u3 β v W).1 h),z_c (fun β v W h=>(zc u4 β v W).1 h),z_c (fun β v W h=>(zc u4 β v W).1 h),z_c (fun β v W h=>(zc u5 β v W).1 h),z_c yy,z_c (fun β v W h=>(zc u2 β v W).1 h),z_c (fun β v W h=>(zc u6 β v W).1 h),z_c yy,z_b ⟨fun β v W h=>(zc u0 β v W).1 h,fun β v W h=>(zc u1 β v W).1 h,fun β v W h=>(zc u2 β v W).1 h,trivial⟩,trivial⟩) rfl fun t ht=>?_
 rcases rounds t ht with hz_ | ⟨t',hz_,hm_,hj_⟩
 ·refine .inl ?_
  rcases hz_ with ⟨v501,e501,h502,_⟩
  ·exact ze3  e a N v1 v2 v4 IH h3 t.i v501 e501 h502  F u0 u1 u2 u3 u4 u5 u6  R hR
 ·refine .inr ⟨t',hm_,hj_,?_⟩
  rcases hz_ with ⟨v501,n503,x504,v507,v509,v511,e501,e507,e509,e511,h502,s505,s506,s508,h510,q0,_⟩
  ·exact zcr  e a N v1 v2 v4 IH h3 t.i v501 n503 x504 v507 v509 v511 e501 e507 e509 e511 h502 s505 s506 s508 h510 t'.i q0 R hR
theorem ze2 {w0:World} (e:Xp) (a:Int) (N:Nat) (v1:Int) (v2:Bool) (v4:Int) (IH:z8 w0 N) (h3:v2=false) {F:Fact} (u0:F.c 0=pI e.op) (u1:F.c 1=pI e.n) (u2:F.c 2=pLs cE e.l) (u3:F.c 3=pI a) (u4:F.c 4=pI v1) (u5:F.c 5=pB v2) (u6:F.c 6=pI v4) (R:Frm) (hR:R.pm=⟨ntOf Tryd.prog 32,[],[]⟩) (hb:e.l.length<9223372036854775808) (hN:nodes e≤N+1) (hlen:(e.l.length:Int)=v4) (hO:chkL e.l a=0):zl (KN w0) Tryd.prog F R qQ (lp Tryd.prog 32 0):=by
 refine zdl  e a N v1 v2 v4 IH h3  u0 u1 u2 u3 u4 u5 u6 R hR (fun ⟨i⟩=>∃k:Nat,i=(k:Int)∧k≤e.l.length∧chkL (e.l.drop k) a=0) (fun ⟨i⟩=>((e.l.length:Int) - i).toNat) ⟨0,rfl,Nat.zero_le _,by rw [List.drop_zero];exact hO⟩ fun t hJ=>?_
 obtain ⟨i⟩:=t
 dsimp only at hJ
 obtain ⟨k,hi,hk,hs⟩:=hJ
 obtain ⟨v501,e501⟩:∃v,(decide (i<v4))=v:=⟨_,rfl⟩
 cases h502:v501 with
 | true =>
  obtain ⟨n503,x504,s505,s506⟩:∃(n503:Nat) (x504:Xp),i=(n503:Int)∧e.l[n503]?=some x504:=by (have dh502:=of_decide_eq_true (e501.trans h502);have hz:=hlen;have hlt:k<e.l.length:=(by omega);exact ⟨k,_,hi,List.getElem?_eq_getElem hlt⟩)
  obtain ⟨v507,e507⟩:∃v,(chkX x504 a)=v:=⟨_,rfl⟩
  have s508:nodes x504≤N:=by exact zv hN s506
  obtain ⟨v509,e509⟩:∃v,((v507 != (0:Int)))=v:=⟨_,rfl⟩
  cases h510:v509 with
  | true =>
   exfalso
   have dh502:=of_decide_eq_true (e501.trans h502);have dh510:=bne_iff_ne.1 (e509.trans h510);have hz:=hlen;have hkn:n503=k:=(by omega);subst hkn;have hd:=zaS s506 a;rw [e507] at hd;rw [if_pos dh510,hs] at hd;exact dh510 hd.symm
  | false =>
   obtain ⟨v511,e511⟩:∃v,(IntKind.i64.wrap (i+(1:Int)))=v:=⟨_,rfl⟩
   refine .inr ⟨⟨v511⟩,⟨v501,n503,x504,v507,v509,v511,e501,e507,e509,e511,h502,s505,s506,s508,h510,rfl,trivial⟩,?_,?_⟩
   all_goals (have dh502:=of_decide_eq_true (e501.trans h502);have dh510:=bne_eq_false_iff_eq.1 (e509.trans h510);have hz:=hlen;have hkn:n503=k:=(by omega);subst hkn;have hd:=zaS s506 a;rw [e507] at hd;rw [if_neg (by simpa using dh510)] at hd;have hlt:n503<e.l.length:=(List.getElem?_eq_some_iff.1 s506).1;have x3:v511=((n503+1:Nat):Int):=(by rw [← e511,hi,wri (by omega)];omega))
   ·show ((e.l.length:Int) - v511).toNat<((e.l.length:Int) - i).toNat
    omega
   ·exact ⟨n503+1,x3,by omega,by rw [← hd];exact hs⟩
 | false =>
  refine .inl (⟨v501,e501,h502,trivial⟩)
def qR:LoopS:=⟨5,[.sl 0 (.o (.g [.h 0,.h 1,.h 2])),.sl 1 (yh 3),.sl 2 (.o (.c (.p 0 0))),.sl 5 (yh 4),.sl 9 (.o (.g [.h 0,.h 1,.h 2])),.sl 10 (yh 3),.sl 11 (yh 4),.sl 12 (yh 4),.sl 13 (yh 5),.sl 15 (.o (.c (.p 0 2))),.sl 16 (yh 2),.sl 17 (yh 6),.sl 18 (.o (.c (.k (.int .i64 0)))),.bx 0 31 [.h 0,.h 1,.h 2]],.r,[.sl 0 (.o (.g [.h 0,.h 1,.h 2])),.sl 1 (yh 3),.sl 2 (.o (.c (.p 0 0))),.sl 4 (yh 7),.sl 5 (yh 4),.sl 9 (.o (.g [.h 0,.h 1,.h 2])),.sl 10 (yh 3),.sl 11 (yh 4),.sl 12 (yh 4),.sl 13 (yh 5),.sl 15 (.o (.c (.p 0 2))),.sl 16 (yh 2),.sl 17 (yh 6),.bx 0 31 [.h 0,.h 1,.h 2]]⟩
theorem ze5 {w0:World} (e:Xp) (a:Int) (N:Nat) (v1:Int) (v2:Bool) (v4:Int) (IH:z8 w0 N) (h3:v2=false) (i:Int) (v501:Bool) (n503:Nat) (x504:Xp) (v507:Int) (v509:Bool) (e501:(decide (i<v4))=v501) (e507:(chkX x504 a)=v507) (e509:((v507 != (0:Int)))=v509) (h502:v501=true) (s505:i=(n503:Int)) (s506:e.l[n503]?=some x504) (s508:nodes x504≤N) (h510:v509=true) (o:Int) (F:Fact) (u0:F.c 0=pI e.op) (u1:F.c 1=pI e.n) (u2:F.c 2=pLs cE e.l) (u3:F.c 3=pI a) (u4:F.c 4=pI v1) (u5:F.c 5=pB v2) (u6:F.c 6=pI v4) (u7:F.c 7=pI o) (q0:(v507)=o) (R:Frm) (hR:R.pm=⟨ntOf Tryd.prog 32,[],[]⟩):Goes (KN w0) Tryd.prog R (lp Tryd.prog 32 0) (FL [pI e.op,pI e.n,pLs cE e.l,pI a,pI v1,pB v2,pI v4,pI i] []) zE .r F qR.out:=
 goes (x:=.r) (y:=.r) (Fb:=FL [pI e.op,pI e.n,pLs cE e.l,pI a,pI v1,pB v2,pI v4,pI i,pB v501,pP (cE x504),pI x504.op,pI x504.n,pLs cE x504.l,pI v507,pB v509] []) (stb:=zE) (tl:=[.sl 0 (.o (.g [.h 0,.h 1,.h 2])),.sl 1 (yh 3),.sl 2 (.o (.c (.p 0 0))),.sl 4 (yh 13),.sl 5 (yh 4),.sl 9 (.o (.g [.h 0,.h 1,.h 2])),.sl 10 (yh 3),.sl 11 (yh 4),.sl 12 (yh 4),.sl 13 (yh 5),.sl 15 (.o (.c (.p 0 2))),.sl 16 (yh 2),.sl 17 (yh 6),.bx 0 31 [.h 0,.h 1,.h 2]]) (C:=((10005,.fb 5 false) ::
  (1005000,.bin .lss 3 (yh 7) (yh 6) (yh 8)) ::
  (10008,.fb 8 true) ::
  (1005001,.op (.ia 28) [yh 2,yh 7] [] (yh 9)) ::
  (1005002,.op (.ld 31) [yh 9] [] (.o (.g [.h 10,.h 11,.h 12]))) ::
  (1005007,.call ⟨32,[.o (.g [.h 10,.h 11,.h 12]),yh 3],[],yh 13,[]⟩) ::
  (1005010,.bin .neq 33 (yh 13) (LF (.k (.int .i64 0))) (yh 14)) ::
  (10014,.fb 14 true) ::
  []:List (Nat×Ent))) (H:=.no) 5000 (zipA.imp ⟨z_g ⟨yy,yy,yy,trivial⟩,z_c yy,z_c yy,z_c yy,z_g ⟨yy,yy,yy,trivial⟩,z_c yy,z_c yy,z_c yy,z_c yy,z_c yy,z_c yy,z_c yy,z_c yy,z_b ⟨yy,yy,yy,trivial⟩,trivial⟩) (zg ⟨za,za,(ze (zf rfl)),za,za,za,za,za,za,(zo ((zf rfl) _)),za,za,(ze (zf rfl)),za,za,trivial⟩) ⟨e_fbv h3,
  e_bin (zb rfl) (zb rfl) (zb rfl) (r_cmp (congrArg some e501)),
  e_fbv h502,
  e_iaL (E:=31) (z:=3) zm (by kernel_rfl) (by kernel_rfl) (zc rfl) (zb rfl) s505 s506 (zc rfl),
  e_ldG (by kernel_rfl) (by kernel_rfl) (zc rfl) (cE_eq _).symm rfl (zm _),
  zh (IH x504 a v507 e507 s508),
  e_bin (zb rfl) zd (zb rfl) (r_cmp (congrArg some e509)),
  e_fbv h510,
  trivial⟩ mixed hR trivial (fun _ _ _ hs=>by cases hs) (by kernel_rfl:zD (KN w0) Tryd.prog _ .no ⟨ntOf Tryd.prog 32,[],[]⟩ (lp Tryd.prog 32 0) 5000 zE .r [.sl 0 (.o (.g [.h 0,.h 1,.h 2])),.sl 1 (yh 3),.sl 2 (.o (.c (.p 0 0))),.sl 4 (yh 13),.sl 5 (yh 4),.sl 9 (.o (.g [.h 0,.h 1,.h 2])),.sl 10 (yh 3),.sl 11 (yh 4),.sl 12 (yh 4),.sl 13 (yh 5),.sl 15 (.o (.c (.p 0 2))),.sl 16 (yh 2),.sl 17 (yh 6),.bx 0 31 [.h 0,.h 1,.h 2]]=true) rfl (zipA.imp ⟨z_g ⟨fun β v W h=>(zc u0 β v W).2 h,fun β v W h=>(zc u1 β v W).2 h,fun β v W h=>(zc u2 β v W).2 h,trivial⟩,z_c (fun β v W h=>(zc u3 β v W).2 h),z_c yy,z_c (fun β v W h=>(zc u7 β v W).2 (by rw [← q0];exact h)),z_c (fun β v W h=>(zc u4 β v W).2 h),z_g ⟨fun β v W h=>(zc u0 β v W).2 h,fun β v W h=>(zc u1 β v W).2 h,fun β v W h=>(zc u2 β v W).2 h,trivial⟩,z_c (fun β v W h=>(zc u3 β v W).2 h),z_c (fun β v W h=>(zc u4 β v W).2 h),z_c (fun β v W h=>(zc u4 β v W).2 h),z_c (fun β v W h=>(zc u5 β v W).2 h),z_c yy,z_c (fun β v W h=>(zc u2 β v W).2 h),z_c (fun β v W h=>(zc u6 β v W).2 h),z_b ⟨fun β v W h=>(zc u0 β v W).2 h,fun β v W h=>(zc u1 β v W).2 h,fun β v W h=>(zc u2 β v W).2 h,trivial⟩,trivial⟩)
def zgq (e:Xp) (a:Int) (N:Nat) (v1:Int) (v2:Bool) (v4:Int) (t:x_check_A_T) (o:Int):Prop:=(∃(v501:Bool),∃(n503:Nat),∃(x504:Xp),∃(v507:Int),∃(v509:Bool),((decide (t.i<v4))=v501)∧((chkX x504 a)=v507)∧(((v507 != (0:Int)))=v509)∧(v501=true)∧(t.i=(n503:Int))∧(e.l[n503]?=some x504)∧(nodes x504≤N)∧(v509=true)∧((v507)=o)∧True)
theorem zdm {w0:World} (e:Xp) (a:Int) (N:Nat) (v1:Int) (v2:Bool) (v4:Int) (IH:z8 w0 N) (h3:v2=false) (o:Int) {F:Fact} (u0:F.c 0=pI e.op) (u1:F.c 1=pI e.n) (u2:F.c 2=pLs cE e.l) (u3:F.c 3=pI a) (u4:F.c 4=pI v1) (u5:F.c 5=pB v2) (u6:F.c 6=pI v4) (u7:F.c 7=pI o) (R:Frm) (hR:R.pm=⟨ntOf Tryd.prog 32,[],[]⟩) (J:x_check_A_T→Prop) (m:x_check_A_T→Nat) (hJ:J { i:=(0:Int) }) (rounds:∀t,J t→zgq e a N v1 v2 v4 t o∨∃t',zc7 e a N v1 v2 v4 t t'∧m t'<m t∧J t'):zl (KN w0) Tryd.prog F R qR (lp Tryd.prog 32 0):=by
 refine zB (T:=x_check_A_T) (fun t=>FL [pI e.op,pI e.n,pLs cE e.l,pI a,pI v1,pB v2,pI v4,pI t.i] []) J m { i:=(0:Int) } zE hJ (zipA.imp ⟨z_g ⟨fun β v W h=>(zc u0 β v W).1 h,fun β v W h=>(zc u1 β v W).1 h,fun β v W h=>(zc u2 β v W).1 h,trivial⟩,z_c (fun β v W h=>(zc u3 β v W).1 h),z_c yy,z_c (fun β v W h=>(zc u4 β v W).1 h),z_g ⟨fun β v W h=>(zc u0 β v W).1 h,fun β v W h=>(zc u1 β v W).1 h,fun β v W h=>(zc u2 β v W).1 h,trivial⟩,z_c (fun β v W h=>(zc u3 β v W).1 h),z_c (fun β v W h=>(zc u4 β v W).1 h),z_c (fun β v W h=>(zc u4 β v W).1 h),z_c (fun β v W h=>(zc u5 β v W).1 h),z_c yy,z_c (fun β v W h=>(zc u2 β v W).1 h),z_c (fun β v W h=>(zc u6 β v W).1 h),z_c yy,z_b ⟨fun β v W h=>(zc u0 β v W).1 h,fun β v W h=>(zc u1 β v W).1 h,fun β v W h=>(zc u2 β v W).1 h,trivial⟩,trivial⟩) rfl fun t ht=>?_
 rcases rounds t ht with hz_ | ⟨t',hz_,hm_,hj_⟩
 ·refine .inl ?_
  rcases hz_ with ⟨v501,n503,x504,v507,v509,e501,e507,e509,h502,s505,s506,s508,h510,q0,_⟩
  ·exact ze5  e a N v1 v2 v4 IH h3 t.i v501 n503 x504 v507 v509 e501 e507 e509 h502 s505 s506 s508 h510 o F u0 u1 u2 u3 u4 u5 u6 u7 q0 R hR
 ·refine .inr ⟨t',hm_,hj_,?_⟩
  rcases hz_ with ⟨v501,n503,x504,v507,v509,v511,e501,e507,e509,e511,h502,s505,s506,s508,h510,q0,_⟩
  ·exact zcr  e a N v1 v2 v4 IH h3 t.i v501 n503 x504 v507 v509 v511 e501 e507 e509 e511 h502 s505 s506 s508 h510 t'.i q0 R hR
theorem ze4 {w0:World} (e:Xp) (a:Int) (N:Nat) (v1:Int) (v2:Bool) (v4:Int) (IH:z8 w0 N) (h3:v2=false) (o:Int) {F:Fact} (u0:F.c 0=pI e.op) (u1:F.c 1=pI e.n) (u2:F.c 2=pLs cE e.l) (u3:F.c 3=pI a) (u4:F.c 4=pI v1) (u5:F.c 5=pB v2) (u6:F.c 6=pI v4) (u7:F.c 7=pI o) (R:Frm) (hR:R.pm=⟨ntOf Tryd.prog 32,[],[]⟩) (hb:e.l.length<9223372036854775808) (hN:nodes e≤N+1) (hlen:(e.l.length:Int)=v4) (hne:o≠0) (hO:chkL e.l a=o):zl (KN w0) Tryd.prog F R qR (lp Tryd.prog 32 0):=by
 refine zdm  e a N v1 v2 v4 IH h3 o u0 u1 u2 u3 u4 u5 u6 u7 R hR (fun ⟨i⟩=>∃k:Nat,i=(k:Int)∧k≤e.l.length∧chkL (e.l.drop k) a=o) (fun ⟨i⟩=>((e.l.length:Int) - i).toNat) ⟨0,rfl,Nat.zero_le _,by rw [List.drop_zero];exact hO⟩ fun t hJ=>?_
 obtain ⟨i⟩:=t
 dsimp only at hJ
 obtain ⟨k,hi,hk,hs⟩:=hJ
 obtain ⟨v501,e501⟩:∃v,(decide (i<v4))=v:=⟨_,rfl⟩
 cases h502:v501 with
 | true =>
  obtain ⟨n503,x504,s505,s506⟩:∃(n503:Nat) (x504:Xp),i=(n503:Int)∧e.l[n503]?=some x504:=by (have dh502:=of_decide_eq_true (e501.trans h502);have hz:=hlen;have hlt:k<e.l.length:=(by omega);exact ⟨k,_,hi,List.getElem?_eq_getElem hlt⟩)
  obtain ⟨v507,e507⟩:∃v,(chkX x504 a)=v:=⟨_,rfl⟩
  have s508:nodes x504≤N:=by exact zv hN s506
  obtain ⟨v509,e509⟩:∃v,((v507 != (0:Int)))=v:=⟨_,rfl⟩
  cases h510:v509 with
  | true =>
   refine .inl (⟨v501,n503,x504,v507,v509,e501,e507,e509,h502,s505,s506,s508,h510,?_,trivial⟩)
   have dh502:=of_decide_eq_true (e501.trans h502);have dh510:=bne_iff_ne.1 (e509.trans h510);have hz:=hlen;have hkn:n503=k:=(by omega);subst hkn;have hd:=zaS s506 a;rw [e507] at hd;rw [if_pos dh510,hs] at hd;exact hd.symm
  | false =>
   obtain ⟨v511,e511⟩:∃v,(IntKind.i64.wrap (i+(1:Int)))=v:=⟨_,rfl⟩
   refine .inr ⟨⟨v511⟩,⟨v501,n503,x504,v507,v509,v511,e501,e507,e509,e511,h502,s505,s506,s508,h510,rfl,trivial⟩,?_,?_⟩
   all_goals (have dh502:=of_decide_eq_true (e501.trans h502);have dh510:=bne_eq_false_iff_eq.1 (e509.trans h510);have hz:=hlen;have hkn:n503=k:=(by omega);subst hkn;have hd:=zaS s506 a;rw [e507] at hd;rw [if_neg (by simpa using dh510)] at hd;have hlt:n503<e.l.length:=(List.getElem?_eq_some_iff.1 s506).1;have x3:v511=((n503+1:Nat):Int):=(by rw [← e511,hi,wri (by omega)];omega))
   ·show ((e.l.length:Int) - v511).toNat<((e.l.length:Int) - i).toNat
    omega
   ·exact ⟨n503+1,x3,by omega,by rw [← hd];exact hs⟩
 | false =>
  exfalso
  have dh502:=of_decide_eq_false (e501.trans h502);have hz:=hlen;have hkl:k=e.l.length:=(by omega);rw [hkl,List.drop_length,chkL] at hs;exact hne hs.symm
theorem zhX {w0:World} (e:Xp) (a:Int) (N:Nat) (IH:z8 w0 N) (v1:Int) (v2:Bool) (e1:(zp e.op e.n e.l.length a)=v1) (e2:((v1 != (0:Int)))=v2) (h3:v2=true):Fun (KN w0) Tryd.prog 32 [.o (.g [pI e.op,pI e.n,pLs cE e.l]),.o (.c (pI a))] (.o (.c (pI v1))):=
 zi (zk (F:=FL [pI e.op,pI e.n,pLs cE e.l,pI a,pI v1,pB v2] []) (C:=[(1000004,.call ⟨57,[.o (.g [.h 0,.h 1,.h 2]),yh 3],[],yh 4,[]⟩),
  (1000007,.bin .neq 33 (yh 4) (LF (.k (.int .i64 0))) (yh 5)),
  (10005,.fb 5 true)]) (k:=⟨32,[.o (.g [.h 0,.h 1,.h 2]),yh 3],[],yh 4,[]⟩) 0 (zg ⟨za,za,(ze (zf rfl)),za,za,za,trivial⟩) ⟨zh (zew e a v1 e1),
  e_bin (zb rfl) zd (zb rfl) (r_cmp (congrArg some e2)),
  e_fbv h3,
  trivial⟩ mixed (by kernel_rfl))
theorem zhY {w0:World} (e:Xp) (a:Int) (N:Nat) (IH:z8 w0 N) (v1:Int) (v2:Bool) (v4:Int) (o:Int) (e1:(zp e.op e.n e.l.length a)=v1) (e2:((v1 != (0:Int)))=v2) (e4:((e.l.length:Int))=v4) (h3:v2=false) (L_x_check_B:∀R:Frm,R.pm=⟨ntOf Tryd.prog 32,[],[]⟩→zl (KN w0) Tryd.prog (FL [pI e.op,pI e.n,pLs cE e.l,pI a,pI v1,pB v2,pI v4,pI o] []) R qR (lp Tryd.prog 32 0)):Fun (KN w0) Tryd.prog 32 [.o (.g [pI e.op,pI e.n,pLs cE e.l]),.o (.c (pI a))] (.o (.c (pI o))):=
 zi (qe (F:=FL [pI e.op,pI e.n,pLs cE e.l,pI a,pI v1,pB v2,pI v4,pI o] []) (C:=[(1000004,.call ⟨57,[.o (.g [.h 0,.h 1,.h 2]),yh 3],[],yh 4,[]⟩),
  (1000007,.bin .neq 33 (yh 4) (LF (.k (.int .i64 0))) (yh 5)),
  (10005,.fb 5 false),
  (1000010,.op (.len [28] 3) [yh 2] [] (yh 6))]) (k:=⟨32,[.o (.g [.h 0,.h 1,.h 2]),yh 3],[],yh 7,[]⟩) ⟨[qR],[],0⟩ [] 0 (zg ⟨za,za,(ze (zf rfl)),za,za,za,za,za,trivial⟩) ⟨zh (zew e a v1 e1),
  e_bin (zb rfl) zd (zb rfl) (r_cmp (congrArg some e2)),
  e_fbv h3,
  zn (E:=31) (by kernel_rfl) (zc rfl) (zb (by rw [← e4];rfl)),
  trivial⟩ mixed trivial (fun R hR p hp s hs=>by
 have hl:zH (qz Tryd.prog 32)=[(5,lp Tryd.prog 32 0)]:=by kernel_rfl
 rw [hl] at hp
 simp only [List.mem_cons,List.not_mem_nil,or_false] at hp
 rcases hp with rfl
 ·have e:s=qR:=(Option.some.inj hs).symm
  subst e;exact L_x_check_B R hR) (by kernel_rfl))
theorem zhZ {w0:World} (e:Xp) (a:Int) (N:Nat) (IH:z8 w0 N) (v1:Int) (v2:Bool) (v4:Int) (e1:(zp e.op e.n e.l.length a)=v1) (e2:((v1 != (0:Int)))=v2) (e4:((e.l.length:Int))=v4) (h3:v2=false) (L_x_check_A:∀R:Frm,R.pm=⟨ntOf Tryd.prog 32,[],[]⟩→zl (KN w0) Tryd.prog (FL [pI e.op,pI e.n,pLs cE e.l,pI a,pI v1,pB v2,pI v4] []) R qQ (lp Tryd.prog 32 0)):Fun (KN w0) Tryd.prog 32 [.o (.g [pI e.op,pI e.n,pLs cE e.l]),.o (.c (pI a))] (.o (.c (pV (.int .i64 0)))):=
 zi (qe (F:=FL [pI e.op,pI e.n,pLs cE e.l,pI a,pI v1,pB v2,pI v4] []) (C:=[(1000004,.call ⟨57,[.o (.g [.h 0,.h 1,.h 2]),yh 3],[],yh 4,[]⟩),
  (1000007,.bin .neq 33 (yh 4) (LF (.k (.int .i64 0))) (yh 5)),
  (10005,.fb 5 false),
  (1000010,.op (.len [28] 3) [yh 2] [] (yh 6))]) (k:=⟨32,[.o (.g [.h 0,.h 1,.h 2]),yh 3],[],.o (.c (.k (.int .i64 0))),[]⟩) ⟨[qQ],[],0⟩ [] 0 (zg ⟨za,za,(ze (zf rfl)),za,za,za,za,trivial⟩) ⟨zh (zew e a v1 e1),
  e_bin (zb rfl) zd (zb rfl) (r_cmp (congrArg some e2)),
  e_fbv h3,
  zn (E:=31) (by kernel_rfl) (zc rfl) (zb (by rw [← e4];rfl)),
  trivial⟩ mixed trivial (fun R hR p hp s hs=>by
 have hl:zH (qz Tryd.prog 32)=[(5,lp Tryd.prog 32 0)]:=by kernel_rfl
 rw [hl] at hp
 simp only [List.mem_cons,List.not_mem_nil,or_false] at hp
 rcases hp with rfl
 ·have e:s=qQ:=(Option.some.inj hs).symm
  subst e;exact L_x_check_A R hR) (by kernel_rfl))
theorem zkp {w0:World} {N:Nat} (IH:z8 w0 N) (e:Xp) (a:Int) (r:Int) (hr:chkX e a=r) (hN:nodes e≤N+1) (hN1:N+1≤1000000):Fun (KN w0) Tryd.prog 32 [.o (.g [pI e.op,pI e.n,pLs cE e.l]),.o (.c (pI a))] (.o (.c (pI r))):=by
 obtain ⟨v1,e1⟩:∃v,(zp e.op e.n e.l.length a)=v:=⟨_,rfl⟩
 obtain ⟨v2,e2⟩:∃v,((v1 != (0:Int)))=v:=⟨_,rfl⟩
 cases h3:v2 with
 | true =>
  refine Fun.imp (zhX e a N IH v1 v2 e1 e2 h3) (fun _ _ _ h=>h) (fun v W D h=>?_)
  have r0:r=v1:=by
   rw [← hr,zdY,e1,if_pos (bne_iff_ne.1 (e2.trans h3))]
  rw [r0];exact h
 | false =>
  obtain ⟨v4,e4⟩:∃v,((e.l.length:Int))=v:=⟨_,rfl⟩
  by_cases c5:chkL e.l a=0
  ·
   refine Fun.imp (zhZ e a N IH v1 v2 v4 e1 e2 e4 h3 (fun R hR=>ze2 e a N v1 v2 v4 IH  h3  rfl rfl rfl rfl rfl rfl rfl R hR (by have:=qa e;omega) hN e4 c5)) (fun _ _ _ h=>h) (fun v W D h=>?_)
   have r0:r=(0:Int):=by
    rw [← hr,zdY,e1,if_neg (by simpa using (bne_eq_false_iff_eq.1 (e2.trans h3))),c5]
   rw [r0];exact h
  ·
   obtain ⟨o,hO_x_check_B⟩:∃(o:Int),chkL e.l a=o:=⟨_,rfl⟩
   refine Fun.imp (zhY e a N IH v1 v2 v4 o e1 e2 e4 h3 (fun R hR=>ze4 e a N v1 v2 v4 IH  h3 o rfl rfl rfl rfl rfl rfl rfl rfl R hR (by have:=qa e;omega) hN e4 (by rw [← hO_x_check_B];exact c5) hO_x_check_B)) (fun _ _ _ h=>h) (fun v W D h=>?_)
   have r0:r=o:=by
    rw [← hr,zdY,e1,if_neg (by simpa using (bne_eq_false_iff_eq.1 (e2.trans h3))),hO_x_check_B]
   rw [r0];exact h
theorem zc8 {w0:World}:∀N:Nat,N≤1000000→z8 w0 N
 | 0,_=>fun x a v _ h=>by have:=qb x;omega
 | N+1,hN=>fun x a v hv h=>zkp (zc8 N (by omega)) x a v hv h hN
theorem znJ {w0:World} (x:Xp) (a v:Int) (hv:chkX x a=v) (hn:nodes x≤1000000):Fun (KN w0) Tryd.prog 32 [.o (.g [pI x.op,pI x.n,pLs cE x.l]),.o (.c (pI a))] (.o (.c (pI v))):=zc8 (nodes x) hn x a v hv (Nat.le_refl _)
def qD (w0:World) (N:Nat):Prop:=∀(x:Xp) (a v:Int),chkX x a=v→nodes x≤N→Fun (KN w0) Tryd.prog 33 [.o (.g [pI x.op,pI x.n,pLs cE x.l]),.o (.c (pI a))] (.o (.c (pI v)))
structure x_nodes_A_T where
 i:Int
 g:Int
def zK:List Atom:=[.sl 0 (.o (.g [.h 0,.h 1,.h 2])),.sl 1 (yh 3),.sl 2 (.o (.c (.p 0 0))),.sl 4 (.o (.c (.k (.int .i64 0)))),.sl 5 (yh 6),.sl 6 (yh 5),.sl 7 (.o (.g [.h 0,.h 1,.h 2])),.sl 8 (yh 3),.sl 9 (yh 4),.bx 0 31 [.h 0,.h 1,.h 2]]
def qx:LoopS:=⟨3,[.sl 0 (.o (.g [.h 0,.h 1,.h 2])),.sl 1 (yh 3),.sl 2 (.o (.c (.p 0 0))),.sl 4 (.o (.c (.k (.int .i64 0)))),.sl 5 (yh 4),.sl 6 (.o (.c (.k (.int .i64 0)))),.sl 7 (.o (.g [.h 0,.h 1,.h 2])),.sl 8 (yh 3),.sl 9 (yh 4),.bx 0 31 [.h 0,.h 1,.h 2]],(.x 0),[.sl 0 (.o (.g [.h 0,.h 1,.h 2])),.sl 1 (yh 3),.sl 2 (.o (.c (.p 0 0))),.sl 4 (.o (.c (.k (.int .i64 0)))),.sl 5 (yh 5),.sl 7 (.o (.g [.h 0,.h 1,.h 2])),.sl 8 (yh 3),.sl 9 (yh 4),.bx 0 31 [.h 0,.h 1,.h 2]]⟩
theorem zfC {w0:World} (e:Xp) (a:Int) (N:Nat) (v1:Int) (IH:qD w0 N) (i:Int) (g:Int) (v501:Int) (v502:Bool) (v504:Bool) (n506:Nat) (x507:Xp) (v510:Int) (v512:Int) (e501:((e.l.length:Int))=v501) (e502:(decide (i<v501))=v502) (e504:((g == (0:Int)))=v504) (e510:(chkX x507 a)=v510) (e512:(IntKind.i64.wrap (i+(1:Int)))=v512) (h503:v502=true) (h505:v504=true) (s508:i=(n506:Int)) (s509:e.l[n506]?=some x507) (s511:nodes x507≤N) (i':Int) (g':Int) (q0:(v510)=g') (q1:(v512)=i') (R:Frm) (hR:R.pm=⟨ntOf Tryd.prog 33,[],[]⟩):Goes (KN w0) Tryd.prog R (lp Tryd.prog 33 0) (FL [pI e.op,pI e.n,pLs cE e.l,pI a,pI v1,pI i,pI g] []) zK .n (FL [pI e.op,pI e.n,pLs cE e.l,pI a,pI v1,pI i',pI g'] []) zK:=
 goes (x:=.n) (y:=.n) (Fb:=FL [pI e.op,pI e.n,pLs cE e.l,pI a,pI v1,pI i,pI g,pI v501,pB v502,pB v504,pP (cE x507),pI x507.op,pI x507.n,pLs cE x507.l,pI v510,pI v512] []) (stb:=zK) (tl:=[.sl 0 (.o (.g [.h 0,.h 1,.h 2])),.sl 1 (yh 3),.sl 2 (.o (.c (.p 0 0))),.sl 4 (.o (.c (.k (.int .i64 0)))),.sl 5 (yh 14),.sl 6 (yh 15),.sl 7 (.o (.g [.h 0,.h 1,.h 2])),.sl 8 (yh 3),.sl 9 (yh 4),.bx 0 31 [.h 0,.h 1,.h 2]]) (C:=((1005003,.op (.len [28] 3) [yh 2] [] (yh 7)) ::
  (1005004,.bin .lss 3 (yh 5) (yh 7) (yh 8)) ::
  (10008,.fb 8 true) ::
  (1005007,.bin .eql 33 (yh 6) (LF (.k (.int .i64 0))) (yh 9)) ::
  (10009,.fb 9 true) ::
  (1005012,.op (.ia 28) [yh 2,yh 5] [] (yh 10)) ::
  (1005013,.op (.ld 31) [yh 10] [] (.o (.g [.h 11,.h 12,.h 13]))) ::
  (1005015,.call ⟨33,[.o (.g [.h 11,.h 12,.h 13]),yh 3],[],yh 14,[]⟩) ::
  (1005018,.bin .add 3 (yh 5) (LF (.k (.int .i64 1))) (yh 15)) ::
  []:List (Nat×Ent))) (H:=.no) 5000 (zipA.imp ⟨z_g ⟨yy,yy,yy,trivial⟩,z_c yy,z_c yy,z_c yy,z_c yy,z_c yy,z_g ⟨yy,yy,yy,trivial⟩,z_c yy,z_c yy,z_b ⟨yy,yy,yy,trivial⟩,trivial⟩) (zg ⟨za,za,(ze (zf rfl)),za,za,za,za,za,za,za,(zo ((zf rfl) _)),za,za,(ze (zf rfl)),za,za,trivial⟩) ⟨zn (E:=31) (by kernel_rfl) (zc rfl) (zb (by rw [← e501];rfl)),
  e_bin (zb rfl) (zb rfl) (zb rfl) (r_cmp (congrArg some e502)),
  e_fbv h503,
  e_bin (zb rfl) zd (zb rfl) (r_cmp (congrArg some e504)),
  e_fbv h505,
  e_iaL (E:=31) (z:=3) zm (by kernel_rfl) (by kernel_rfl) (zc rfl) (zb rfl) s508 s509 (zc rfl),
  e_ldG (by kernel_rfl) (by kernel_rfl) (zc rfl) (cE_eq _).symm rfl (zm _),
  zh (IH x507 a v510 e510 s511),
  e_bin (zb rfl) zd (zb rfl) (r_ar (congrArg some e512)),
  trivial⟩ mixed hR trivial (fun _ _ _ hs=>by cases hs) (by kernel_rfl:zD (KN w0) Tryd.prog _ .no ⟨ntOf Tryd.prog 33,[],[]⟩ (lp Tryd.prog 33 0) 5000 zK .n [.sl 0 (.o (.g [.h 0,.h 1,.h 2])),.sl 1 (yh 3),.sl 2 (.o (.c (.p 0 0))),.sl 4 (.o (.c (.k (.int .i64 0)))),.sl 5 (yh 14),.sl 6 (yh 15),.sl 7 (.o (.g [.h 0,.h 1,.h 2])),.sl 8 (yh 3),.sl 9 (yh 4),.bx 0 31 [.h 0,.h 1,.h 2]]=true) rfl (zipA.imp ⟨z_g ⟨yy,yy,yy,trivial⟩,z_c yy,z_c yy,z_c yy,z_c (fun β v W h=>(zc rfl β v W).2 (by rw [← q0];exact h)),z_c (fun β v W h=>(zc rfl β v W).2 (by rw [← q1];exact h)),z_g ⟨yy,yy,yy,trivial⟩,z_c yy,z_c yy,z_b ⟨yy,yy,yy,trivial⟩,trivial⟩)
theorem zfD {w0:World} (e:Xp) (a:Int) (N:Nat) (v1:Int) (IH:qD w0 N) (i:Int) (g:Int) (v501:Int) (v502:Bool) (v504:Bool) (e501:((e.l.length:Int))=v501) (e502:(decide (i<v501))=v502) (e504:((g == (0:Int)))=v504) (h503:v502=true) (h505:v504=false) (o:Int) (F:Fact) (u0:F.c 0=pI e.op) (u1:F.c 1=pI e.n) (u2:F.c 2=pLs cE e.l) (u3:F.c 3=pI a) (u4:F.c 4=pI v1) (u5:F.c 5=pI o) (q0:(g)=o) (R:Frm) (hR:R.pm=⟨ntOf Tryd.prog 33,[],[]⟩):Goes (KN w0) Tryd.prog R (lp Tryd.prog 33 0) (FL [pI e.op,pI e.n,pLs cE e.l,pI a,pI v1,pI i,pI g] []) zK (.x 0) F qx.out:=
 goes (x:=(.x 0)) (y:=(.x 0)) (Fb:=FL [pI e.op,pI e.n,pLs cE e.l,pI a,pI v1,pI i,pI g,pI v501,pB v502,pB v504] []) (stb:=zK) (tl:=[.sl 0 (.o (.g [.h 0,.h 1,.h 2])),.sl 1 (yh 3),.sl 2 (.o (.c (.p 0 0))),.sl 4 (.o (.c (.k (.int .i64 0)))),.sl 5 (yh 6),.sl 7 (.o (.g [.h 0,.h 1,.h 2])),.sl 8 (yh 3),.sl 9 (yh 4),.bx 0 31 [.h 0,.h 1,.h 2]]) (C:=((1005003,.op (.len [28] 3) [yh 2] [] (yh 7)) ::
  (1005004,.bin .lss 3 (yh 5) (yh 7) (yh 8)) ::
  (10008,.fb 8 true) ::
  (1005007,.bin .eql 33 (yh 6) (LF (.k (.int .i64 0))) (yh 9)) ::
  (10009,.fb 9 false) ::
  []:List (Nat×Ent))) (H:=.no) 5000 (zipA.imp ⟨z_g ⟨yy,yy,yy,trivial⟩,z_c yy,z_c yy,z_c yy,z_c yy,z_c yy,z_g ⟨yy,yy,yy,trivial⟩,z_c yy,z_c yy,z_b ⟨yy,yy,yy,trivial⟩,trivial⟩) (zg ⟨za,za,(ze (zf rfl)),za,za,za,za,za,za,za,trivial⟩) ⟨zn (E:=31) (by kernel_rfl) (zc rfl) (zb (by rw [← e501];rfl)),
  e_bin (zb rfl) (zb rfl) (zb rfl) (r_cmp (congrArg some e502)),
  e_fbv h503,
  e_bin (zb rfl) zd (zb rfl) (r_cmp (congrArg some e504)),
  e_fbv h505,
  trivial⟩ mixed hR trivial (fun _ _ _ hs=>by cases hs) (by kernel_rfl:zD (KN w0) Tryd.prog _ .no ⟨ntOf Tryd.prog 33,[],[]⟩ (lp Tryd.prog 33 0) 5000 zK (.x 0) [.sl 0 (.o (.g [.h 0,.h 1,.h 2])),.sl 1 (yh 3),.sl 2 (.o (.c (.p 0 0))),.sl 4 (.o (.c (.k (.int .i64 0)))),.sl 5 (yh 6),.sl 7 (.o (.g [.h 0,.h 1,.h 2])),.sl 8 (yh 3),.sl 9 (yh 4),.bx 0 31 [.h 0,.h 1,.h 2]]=true) rfl (zipA.imp ⟨z_g ⟨fun β v W h=>(zc u0 β v W).2 h,fun β v W h=>(zc u1 β v W).2 h,fun β v W h=>(zc u2 β v W).2 h,trivial⟩,z_c (fun β v W h=>(zc u3 β v W).2 h),z_c yy,z_c yy,z_c (fun β v W h=>(zc u5 β v W).2 (by rw [← q0];exact h)),z_g ⟨fun β v W h=>(zc u0 β v W).2 h,fun β v W h=>(zc u1 β v W).2 h,fun β v W h=>(zc u2 β v W).2 h,trivial⟩,z_c (fun β v W h=>(zc u3 β v W).2 h),z_c (fun β v W h=>(zc u4 β v W).2 h),z_b ⟨fun β v W h=>(zc u0 β v W).2 h,fun β v W h=>(zc u1 β v W).2 h,fun β v W h=>(zc u2 β v W).2 h,trivial⟩,trivial⟩)
theorem zfE {w0:World} (e:Xp) (a:Int) (N:Nat) (v1:Int) (IH:qD w0 N) (i:Int) (g:Int) (v501:Int) (v502:Bool) (e501:((e.l.length:Int))=v501) (e502:(decide (i<v501))=v502) (h503:v502=false) (o:Int) (F:Fact) (u0:F.c 0=pI e.op) (u1:F.c 1=pI e.n) (u2:F.c 2=pLs cE e.l) (u3:F.c 3=pI a) (u4:F.c 4=pI v1) (u5:F.c 5=pI o) (q0:(g)=o) (R:Frm) (hR:R.pm=⟨ntOf Tryd.prog 33,[],[]⟩):Goes (KN w0) Tryd.prog R (lp Tryd.prog 33 0) (FL [pI e.op,pI e.n,pLs cE e.l,pI a,pI v1,pI i,pI g] []) zK (.x 0) F qx.out:=
 goes (x:=(.x 0)) (y:=(.x 0)) (Fb:=FL [pI e.op,pI e.n,pLs cE e.l,pI a,pI v1,pI i,pI g,pI v501,pB v502] []) (stb:=zK) (tl:=[.sl 0 (.o (.g [.h 0,.h 1,.h 2])),.sl 1 (yh 3),.sl 2 (.o (.c (.p 0 0))),.sl 4 (.o (.c (.k (.int .i64 0)))),.sl 5 (yh 6),.sl 7 (.o (.g [.h 0,.h 1,.h 2])),.sl 8 (yh 3),.sl 9 (yh 4),.bx 0 31 [.h 0,.h 1,.h 2]]) (C:=((1005003,.op (.len [28] 3) [yh 2] [] (yh 7)) ::
  (1005004,.bin .lss 3 (yh 5) (yh 7) (yh 8)) ::
  (10008,.fb 8 false) ::
  []:List (Nat×Ent))) (H:=.no) 5000 (zipA.imp ⟨z_g ⟨yy,yy,yy,trivial⟩,z_c yy,z_c yy,z_c yy,z_c yy,z_c yy,z_g ⟨yy,yy,yy,trivial⟩,z_c yy,z_c yy,z_b ⟨yy,yy,yy,trivial⟩,trivial⟩) (zg ⟨za,za,(ze (zf rfl)),za,za,za,za,za,za,trivial⟩) ⟨zn (E:=31) (by kernel_rfl) (zc rfl) (zb (by rw [← e501];rfl)),
  e_bin (zb rfl) (zb rfl) (zb rfl) (r_cmp (congrArg some e502)),
  e_fbv h503,
  trivial⟩ mixed hR trivial (fun _ _ _ hs=>by cases hs) (by kernel_rfl:zD (KN w0) Tryd.prog _ .no ⟨ntOf Tryd.prog 33,[],[]⟩ (lp Tryd.prog 33 0) 5000 zK (.x 0) [.sl 0 (.o (.g [.h 0,.h 1,.h 2])),.sl 1 (yh 3),.sl 2 (.o (.c (.p 0 0))),.sl 4 (.o (.c (.k (.int .i64 0)))),.sl 5 (yh 6),.sl 7 (.o (.g [.h 0,.h 1,.h 2])),.sl 8 (yh 3),.sl 9 (yh 4),.bx 0 31 [.h 0,.h 1,.h 2]]=true) rfl (zipA.imp ⟨z_g ⟨fun β v W h=>(zc u0 β v W).2 h,fun β v W h=>(zc u1 β v W).2 h,fun β v W h=>(zc u2 β v W).2 h,trivial⟩,z_c (fun β v W h=>(zc u3 β v W).2 h),z_c yy,z_c yy,z_c (fun β v W h=>(zc u5 β v W).2 (by rw [← q0];exact h)),z_g ⟨fun β v W h=>(zc u0 β v W).2 h,fun β v W h=>(zc u1 β v W).2 h,fun β v W h=>(zc u2 β v W).2 h,trivial⟩,z_c (fun β v W h=>(zc u3 β v W).2 h),z_c (fun β v W h=>(zc u4 β v W).2 h),z_b ⟨fun β v W h=>(zc u0 β v W).2 h,fun β v W h=>(zc u1 β v W).2 h,fun β v W h=>(zc u2 β v W).2 h,trivial⟩,trivial⟩)
def zgH (e:Xp) (a:Int) (N:Nat) (v1:Int) (t:x_nodes_A_T) (o:Int):Prop:=(∃(v501:Int),∃(v502:Bool),∃(v504:Bool),(((e.l.length:Int))=v501)∧((decide (t.i<v501))=v502)∧(((t.g == (0:Int)))=v504)∧(v502=true)∧(v504=false)∧((t.g)=o)∧True)∨(∃(v501:Int),∃(v502:Bool),(((e.l.length:Int))=v501)∧((decide (t.i<v501))=v502)∧(v502=false)∧((t.g)=o)∧True)
def zgG (e:Xp) (a:Int) (N:Nat) (v1:Int) (t t':x_nodes_A_T):Prop:=(∃(v501:Int),∃(v502:Bool),∃(v504:Bool),∃(n506:Nat),∃(x507:Xp),∃(v510:Int),∃(v512:Int),(((e.l.length:Int))=v501)∧((decide (t.i<v501))=v502)∧(((t.g == (0:Int)))=v504)∧((chkX x507 a)=v510)∧((IntKind.i64.wrap (t.i+(1:Int)))=v512)∧(v502=true)∧(v504=true)∧(t.i=(n506:Int))∧(e.l[n506]?=some x507)∧(nodes x507≤N)∧((v510)=t'.g)∧((v512)=t'.i)∧True)
theorem zdn {w0:World} (e:Xp) (a:Int) (N:Nat) (v1:Int) (IH:qD w0 N) (o:Int) {F:Fact} (u0:F.c 0=pI e.op) (u1:F.c 1=pI e.n) (u2:F.c 2=pLs cE e.l) (u3:F.c 3=pI a) (u4:F.c 4=pI v1) (u5:F.c 5=pI o) (R:Frm) (hR:R.pm=⟨ntOf Tryd.prog 33,[],[]⟩) (J:x_nodes_A_T→Prop) (m:x_nodes_A_T→Nat) (hJ:J { i:=(0:Int),g:=v1 }) (rounds:∀t,J t→zgH e a N v1 t o∨∃t',zgG e a N v1 t t'∧m t'<m t∧J t'):zl (KN w0) Tryd.prog F R qx (lp Tryd.prog 33 0):=by
 refine zB (T:=x_nodes_A_T) (fun t=>FL [pI e.op,pI e.n,pLs cE e.l,pI a,pI v1,pI t.i,pI t.g] []) J m { i:=(0:Int),g:=v1 } zK hJ (zipA.imp ⟨z_g ⟨fun β v W h=>(zc u0 β v W).1 h,fun β v W h=>(zc u1 β v W).1 h,fun β v W h=>(zc u2 β v W).1 h,trivial⟩,z_c (fun β v W h=>(zc u3 β v W).1 h),z_c yy,z_c yy,z_c (fun β v W h=>(zc u4 β v W).1 h),z_c yy,z_g ⟨fun β v W h=>(zc u0 β v W).1 h,fun β v W h=>(zc u1 β v W).1 h,fun β v W h=>(zc u2 β v W).1 h,trivial⟩,z_c (fun β v W h=>(zc u3 β v W).1 h),z_c (fun β v W h=>(zc u4 β v W).1 h),z_b ⟨fun β v W h=>(zc u0 β v W).1 h,fun β v W h=>(zc u1 β v W).1 h,fun β v W h=>(zc u2 β v W).1 h,trivial⟩,trivial⟩) rfl fun t ht=>?_
 rcases rounds t ht with hz_ | ⟨t',hz_,hm_,hj_⟩
 ·refine .inl ?_
  rcases hz_ with ⟨v501,v502,v504,e501,e502,e504,h503,h505,q0,_⟩ | ⟨v501,v502,e501,e502,h503,q0,_⟩
  ·exact zfD  e a N v1 IH  t.i t.g v501 v502 v504 e501 e502 e504 h503 h505 o F u0 u1 u2 u3 u4 u5 q0 R hR
  ·exact zfE  e a N v1 IH  t.i t.g v501 v502 e501 e502 h503 o F u0 u1 u2 u3 u4 u5 q0 R hR
 ·refine .inr ⟨t',hm_,hj_,?_⟩
  rcases hz_ with ⟨v501,v502,v504,n506,x507,v510,v512,e501,e502,e504,e510,e512,h503,h505,s508,s509,s511,q0,q1,_⟩
  ·exact zfC  e a N v1 IH  t.i t.g v501 v502 v504 n506 x507 v510 v512 e501 e502 e504 e510 e512 h503 h505 s508 s509 s511 t'.i t'.g q0 q1 R hR
theorem zfB {w0:World} (e:Xp) (a:Int) (N:Nat) (v1:Int) (IH:qD w0 N) (o:Int) {F:Fact} (u0:F.c 0=pI e.op) (u1:F.c 1=pI e.n) (u2:F.c 2=pLs cE e.l) (u3:F.c 3=pI a) (u4:F.c 4=pI v1) (u5:F.c 5=pI o) (R:Frm) (hR:R.pm=⟨ntOf Tryd.prog 33,[],[]⟩) (hb:e.l.length<9223372036854775808) (hN:nodes e≤N+1) (hO:(if v1≠0 then v1 else chkL e.l a)=o):zl (KN w0) Tryd.prog F R qx (lp Tryd.prog 33 0):=by
 refine zdn  e a N v1 IH  o u0 u1 u2 u3 u4 u5 R hR (fun ⟨i,g⟩=>∃k:Nat,i=(k:Int)∧k≤e.l.length∧(if g≠0 then g else chkL (e.l.drop k) a)=o) (fun ⟨i,g⟩=>((e.l.length:Int) - i).toNat) ⟨0,rfl,Nat.zero_le _,by rw [List.drop_zero];exact hO⟩ fun t hJ=>?_
 obtain ⟨i,g⟩:=t
 dsimp only at hJ
 obtain ⟨k,hi,hk,hs⟩:=hJ
 obtain ⟨v501,e501⟩:∃v,((e.l.length:Int))=v:=⟨_,rfl⟩
 obtain ⟨v502,e502⟩:∃v,(decide (i<v501))=v:=⟨_,rfl⟩
 cases h503:v502 with
 | true =>
  obtain ⟨v504,e504⟩:∃v,((g == (0:Int)))=v:=⟨_,rfl⟩
  cases h505:v504 with
  | true =>
   obtain ⟨n506,x507,s508,s509⟩:∃(n506:Nat) (x507:Xp),i=(n506:Int)∧e.l[n506]?=some x507:=by (have dh503:=of_decide_eq_true (e502.trans h503);have dh505:=eq_of_beq (e504.trans h505);have hz:=e501;have hlt:k<e.l.length:=(by omega);exact ⟨k,_,hi,List.getElem?_eq_getElem hlt⟩)
   obtain ⟨v510,e510⟩:∃v,(chkX x507 a)=v:=⟨_,rfl⟩
   have s511:nodes x507≤N:=by exact zv hN s509
   obtain ⟨v512,e512⟩:∃v,(IntKind.i64.wrap (i+(1:Int)))=v:=⟨_,rfl⟩
   refine .inr ⟨⟨v512,v510⟩,⟨v501,v502,v504,n506,x507,v510,v512,e501,e502,e504,e510,e512,h503,h505,s508,s509,s511,rfl,rfl,trivial⟩,?_,?_⟩
   all_goals (have dh503:=of_decide_eq_true (e502.trans h503);have dh505:=eq_of_beq (e504.trans h505);have hz:=e501;have hkn:n506=k:=(by omega);subst hkn;have hd:=zaS s509 a;rw [e510] at hd;rw [if_neg (by simpa using dh505),hd] at hs;have hlt:n506<e.l.length:=(List.getElem?_eq_some_iff.1 s509).1;have x3:v512=((n506+1:Nat):Int):=(by rw [← e512,hi,wri (by omega)];omega))
   ·show ((e.l.length:Int) - v512).toNat<((e.l.length:Int) - i).toNat
    omega
   ·exact ⟨n506+1,x3,by omega,hs⟩
  | false =>
   refine .inl (Or.inl (⟨v501,v502,v504,e501,e502,e504,h503,h505,?_,trivial⟩))
   have dh503:=of_decide_eq_true (e502.trans h503);have dh505:=ne_of_beq_false (e504.trans h505);have hz:=e501;rw [if_pos (by simpa using dh505)] at hs;exact hs
 | false =>
  refine .inl (Or.inr (⟨v501,v502,e501,e502,h503,?_,trivial⟩))
  have dh503:=of_decide_eq_false (e502.trans h503);have hz:=e501;have hkl:k=e.l.length:=(by omega);rw [hkl,List.drop_length,chkL] at hs;show g=o;rw [← hs];clear hs;split<;>simp_all
theorem zir {w0:World} (e:Xp) (a:Int) (N:Nat) (IH:qD w0 N) (v1:Int) (o:Int) (e1:(zp e.op e.n e.l.length a)=v1) (L_x_nodes_A:∀R:Frm,R.pm=⟨ntOf Tryd.prog 33,[],[]⟩→zl (KN w0) Tryd.prog (FL [pI e.op,pI e.n,pLs cE e.l,pI a,pI v1,pI o] []) R qx (lp Tryd.prog 33 0)):Fun (KN w0) Tryd.prog 33 [.o (.g [pI e.op,pI e.n,pLs cE e.l]),.o (.c (pI a))] (.o (.c (pI o))):=
 zi (qe (F:=FL [pI e.op,pI e.n,pLs cE e.l,pI a,pI v1,pI o] []) (C:=[(1000004,.call ⟨58,[.o (.g [.h 0,.h 1,.h 2]),yh 3],[],yh 4,[]⟩)]) (k:=⟨33,[.o (.g [.h 0,.h 1,.h 2]),yh 3],[],yh 5,[]⟩) ⟨[qx],[],0⟩ [] 0 (zg ⟨za,za,(ze (zf rfl)),za,za,za,trivial⟩) ⟨zh (zoH e a v1 e1),
  trivial⟩ mixed trivial (fun R hR p hp s hs=>by
 have hl:zH (qz Tryd.prog 33)=[(3,lp Tryd.prog 33 0)]:=by kernel_rfl
 rw [hl] at hp
 simp only [List.mem_cons,List.not_mem_nil,or_false] at hp
 rcases hp with rfl
 ·have e:s=qx:=(Option.some.inj hs).symm
  subst e;exact L_x_nodes_A R hR) (by kernel_rfl))
theorem zkS {w0:World} {N:Nat} (IH:qD w0 N) (e:Xp) (a:Int) (r:Int) (hr:chkX e a=r) (hN:nodes e≤N+1) (hN1:N+1≤1000000):Fun (KN w0) Tryd.prog 33 [.o (.g [pI e.op,pI e.n,pLs cE e.l]),.o (.c (pI a))] (.o (.c (pI r))):=by
 obtain ⟨v1,e1⟩:∃v,(zp e.op e.n e.l.length a)=v:=⟨_,rfl⟩
 obtain ⟨o,hO_x_nodes_A⟩:∃(o:Int),(if v1≠0 then v1 else chkL e.l a)=o:=⟨_,rfl⟩
 refine Fun.imp (zir e a N IH v1 o e1 (fun R hR=>zfB e a N v1 IH   o rfl rfl rfl rfl rfl rfl R hR (by have:=qa e;omega) hN hO_x_nodes_A)) (fun _ _ _ h=>h) (fun v W D h=>?_)
 have r0:r=o:=by
  rw [← hr,zdY,e1,← hO_x_nodes_A]
 rw [r0];exact h
theorem zda {w0:World}:∀N:Nat,N≤1000000→qD w0 N
 | 0,_=>fun x a v _ h=>by have:=qb x;omega
 | N+1,hN=>fun x a v hv h=>zkS (zda N (by omega)) x a v hv h hN
theorem znM {w0:World} (x:Xp) (a v:Int) (hv:chkX x a=v) (hn:nodes x≤1000000):Fun (KN w0) Tryd.prog 33 [.o (.g [pI x.op,pI x.n,pLs cE x.l]),.o (.c (pI a))] (.o (.c (pI v))):=zda (nodes x) hn x a v hv (Nat.le_refl _)
theorem zhR {w0:World} (e:Xp) (a:Int) (v1:Int) (v4:Bool) (e1:(sizeX e (30:Int))=v1) (e4:(decide (v1 > (30:Int)))=v4) (s2:nodes e≤1000000) (s3:0≤(30:Int)∧(30:Int)≤1000) (h5:v4=true):Fun (KN w0) Tryd.prog 11 [.o (.g [pI e.op,pI e.n,pLs cE e.l]),.o (.c (pI a))] (.o (.c (pV (.int .i64 2)))):=
 zi (zk (F:=FL [pI e.op,pI e.n,pLs cE e.l,pI a,pI v1,pB v4] []) (C:=[(1000003,.call ⟨31,[.o (.g [.h 0,.h 1,.h 2]),.o (.c (.k (.int .i64 30)))],[],yh 4,[]⟩),
  (1000004,.bin .gtr 3 (yh 4) (LF (.k (.int .i64 30))) (yh 5)),
  (10005,.fb 5 true)]) (k:=⟨11,[.o (.g [.h 0,.h 1,.h 2]),yh 3],[],.o (.c (.k (.int .i64 2))),[]⟩) 0 (zg ⟨za,za,(ze (zf rfl)),za,za,za,trivial⟩) ⟨zh (zmW e (30:Int) v1 e1 s2 s3),
  e_bin (zb rfl) zd (zb rfl) (r_cmp (congrArg some e4)),
  e_fbv h5,
  trivial⟩ mixed (by kernel_rfl))
theorem zhS {w0:World} (e:Xp) (a:Int) (v1:Int) (v4:Bool) (v6:Int) (e1:(sizeX e (30:Int))=v1) (e4:(decide (v1 > (30:Int)))=v4) (e6:(chkX e a)=v6) (s2:nodes e≤1000000) (s3:0≤(30:Int)∧(30:Int)≤1000) (h5:v4=false) (s7:nodes e≤1000000):Fun (KN w0) Tryd.prog 11 [.o (.g [pI e.op,pI e.n,pLs cE e.l]),.o (.c (pI a))] (.o (.c (pI v6))):=
 zi (zk (F:=FL [pI e.op,pI e.n,pLs cE e.l,pI a,pI v1,pB v4,pI v6] []) (C:=[(1000003,.call ⟨31,[.o (.g [.h 0,.h 1,.h 2]),.o (.c (.k (.int .i64 30)))],[],yh 4,[]⟩),
  (1000004,.bin .gtr 3 (yh 4) (LF (.k (.int .i64 30))) (yh 5)),
  (10005,.fb 5 false),
  (1000007,.call ⟨32,[.o (.g [.h 0,.h 1,.h 2]),yh 3],[],yh 6,[]⟩)]) (k:=⟨11,[.o (.g [.h 0,.h 1,.h 2]),yh 3],[],yh 6,[]⟩) 0 (zg ⟨za,za,(ze (zf rfl)),za,za,za,za,trivial⟩) ⟨zh (zmW e (30:Int) v1 e1 s2 s3),
  e_bin (zb rfl) zd (zb rfl) (r_cmp (congrArg some e4)),
  e_fbv h5,
  zh (znJ e a v6 e6 s7),
  trivial⟩ mixed (by kernel_rfl))
theorem za4 {w0:World} (e:Xp) (a:Int) (r:Int) (hr:zO e a=r) (hn:nodes e≤1000000):Fun (KN w0) Tryd.prog 11 [.o (.g [pI e.op,pI e.n,pLs cE e.l]),.o (.c (pI a))] (.o (.c (pI r))):=by
 obtain ⟨v1,e1⟩:∃v,(sizeX e (30:Int))=v:=⟨_,rfl⟩
 have s2:nodes e≤1000000:=by exact hn
 have s3:0≤(30:Int)∧(30:Int)≤1000:=by omega
 obtain ⟨v4,e4⟩:∃v,(decide (v1 > (30:Int)))=v:=⟨_,rfl⟩
 cases h5:v4 with
 | true =>
  refine Fun.imp (zhR e a v1 v4 e1 e4 s2 s3 h5) (fun _ _ _ h=>h) (fun v W D h=>?_)
  have r0:r=(2:Int):=by
   have dh5:=of_decide_eq_true (e4.trans h5);have hz:=e1;rw [← hr];unfold zO;rw [if_pos (by omega)]
  rw [r0];exact h
 | false =>
  obtain ⟨v6,e6⟩:∃v,(chkX e a)=v:=⟨_,rfl⟩
  have s7:nodes e≤1000000:=by exact hn
  refine Fun.imp (zhS e a v1 v4 v6 e1 e4 e6 s2 s3 h5 s7) (fun _ _ _ h=>h) (fun v W D h=>?_)
  have r0:r=v6:=by
   have dh5:=of_decide_eq_false (e4.trans h5);have hz:=e1;rw [← hr];unfold zO;rw [if_neg (by omega)];simp_all
  rw [r0];exact h
theorem zgI {w0:World} (e:Xp) (a:Int) (v1:Int) (v4:Bool) (e1:(sizeX e (30:Int))=v1) (e4:(decide (v1 > (30:Int)))=v4) (s2:nodes e≤1000000) (s3:0≤(30:Int)∧(30:Int)≤1000) (h5:v4=true):Fun (KN w0) Tryd.prog 12 [.o (.g [pI e.op,pI e.n,pLs cE e.l]),.o (.c (pI a))] (.o (.c (pV (.int .i64 2)))):=
 zi (zk (F:=FL [pI e.op,pI e.n,pLs cE e.l,pI a,pI v1,pB v4] []) (C:=[(1000003,.call ⟨21,[.o (.g [.h 0,.h 1,.h 2]),.o (.c (.k (.int .i64 30)))],[],yh 4,[]⟩),
  (1000004,.bin .gtr 3 (yh 4) (LF (.k (.int .i64 30))) (yh 5)),
  (10005,.fb 5 true)]) (k:=⟨12,[.o (.g [.h 0,.h 1,.h 2]),yh 3],[],.o (.c (.k (.int .i64 2))),[]⟩) 0 (zg ⟨za,za,(ze (zf rfl)),za,za,za,trivial⟩) ⟨zh (zlc e (30:Int) v1 e1 s2 s3),
  e_bin (zb rfl) zd (zb rfl) (r_cmp (congrArg some e4)),
  e_fbv h5,
  trivial⟩ mixed (by kernel_rfl))
theorem zgJ {w0:World} (e:Xp) (a:Int) (v1:Int) (v4:Bool) (v6:Int) (e1:(sizeX e (30:Int))=v1) (e4:(decide (v1 > (30:Int)))=v4) (e6:(chkX e a)=v6) (s2:nodes e≤1000000) (s3:0≤(30:Int)∧(30:Int)≤1000) (h5:v4=false) (s7:nodes e≤1000000):Fun (KN w0) Tryd.prog 12 [.o (.g [pI e.op,pI e.n,pLs cE e.l]),.o (.c (pI a))] (.o (.c (pI v6))):=
 zi (zk (F:=FL [pI e.op,pI e.n,pLs cE e.l,pI a,pI v1,pB v4,pI v6] []) (C:=[(1000003,.call ⟨21,[.o (.g [.h 0,.h 1,.h 2]),.o (.c (.k (.int .i64 30)))],[],yh 4,[]⟩),
  (1000004,.bin .gtr 3 (yh 4) (LF (.k (.int .i64 30))) (yh 5)),
  (10005,.fb 5 false),
  (1000007,.call ⟨33,[.o (.g [.h 0,.h 1,.h 2]),yh 3],[],yh 6,[]⟩)]) (k:=⟨12,[.o (.g [.h 0,.h 1,.h 2]),yh 3],[],yh 6,[]⟩) 0 (zg ⟨za,za,(ze (zf rfl)),za,za,za,za,trivial⟩) ⟨zh (zlc e (30:Int) v1 e1 s2 s3),
  e_bin (zb rfl) zd (zb rfl) (r_cmp (congrArg some e4)),
  e_fbv h5,
  zh (znM e a v6 e6 s7),
  trivial⟩ mixed (by kernel_rfl))
theorem zcE {w0:World} (e:Xp) (a:Int) (r:Int) (hr:zO e a=r) (hn:nodes e≤1000000):Fun (KN w0) Tryd.prog 12 [.o (.g [pI e.op,pI e.n,pLs cE e.l]),.o (.c (pI a))] (.o (.c (pI r))):=by
 obtain ⟨v1,e1⟩:∃v,(sizeX e (30:Int))=v:=⟨_,rfl⟩
 have s2:nodes e≤1000000:=by exact hn
 have s3:0≤(30:Int)∧(30:Int)≤1000:=by omega
 obtain ⟨v4,e4⟩:∃v,(decide (v1 > (30:Int)))=v:=⟨_,rfl⟩
 cases h5:v4 with
 | true =>
  refine Fun.imp (zgI e a v1 v4 e1 e4 s2 s3 h5) (fun _ _ _ h=>h) (fun v W D h=>?_)
  have r0:r=(2:Int):=by
   have dh5:=of_decide_eq_true (e4.trans h5);have hz:=e1;rw [← hr];unfold zO;rw [if_pos (by omega)]
  rw [r0];exact h
 | false =>
  obtain ⟨v6,e6⟩:∃v,(chkX e a)=v:=⟨_,rfl⟩
  have s7:nodes e≤1000000:=by exact hn
  refine Fun.imp (zgJ e a v1 v4 v6 e1 e4 e6 s2 s3 h5 s7) (fun _ _ _ h=>h) (fun v W D h=>?_)
  have r0:r=v6:=by
   have dh5:=of_decide_eq_false (e4.trans h5);have hz:=e1;rw [← hr];unfold zO;rw [if_neg (by omega)];simp_all
  rw [r0];exact h
end Go.Proofs.YtdkofaajcpcjkaaDoor
namespace Go.Proofs.YtdkofaajcpcjkaaDoor
open Go.RowKit
mutual
def evR (args:List Int):Xp→Int×Bool
 | .mk o n l=>if o=1 then (n,true) else if o=2 then (args.getD n.toNat 0,valB (args.getD n.toNat 0)) else match evRL args l with
  | [a,b]=>if a.2=true∧b.2=true then (operX o a.1 b.1,valB (operX o a.1 b.1)) else (0,false)
  | _=>(0,false)
def evRL (args:List Int):List Xp→List (Int×Bool)
 | []=>[]
 | x::r=>evR args x::evRL args r
end
theorem zbA {args:List Int} {k:Int}:∀{e:Xp},Vx k e→((evR args e).2=true→evalX args e=some (evR args e).1)∧((evR args e).2=false→evalX args e=none):=by
 intro e h
 induction h with
 | num h=>rw [zcN,evR,if_pos rfl];exact ⟨fun _=>by unfold valO;rw [if_pos h],fun h=>by cases h⟩
 | arg h0 h1 =>
  rw [zcM,evR,if_neg (by decide),if_pos rfl]
  exact ⟨fun h=>by unfold valO;rw [if_pos h],fun h=>by unfold valO;rw [if_neg (by simp at h;simp [h])]⟩
 | @op o x y h0 h1 ha hb iha ihb =>
  rw [zcv args h0,evR,if_neg (by omega),if_neg (by omega),evRL,evRL,evRL]
  cases hx:(evR args x).2 with
  | false=>rw [iha.2 hx];simp [hx]
  | true =>
   cases hy:(evR args y).2 with
   | false=>rw [iha.1 hx,ihb.2 hy];simp [hx,hy]
   | true =>
    rw [iha.1 hx,ihb.1 hy]
    simp only [hx,hy,and_self,if_true]
    exact ⟨fun h=>by unfold valO;rw [if_pos h],fun h=>by unfold valO;rw [if_neg (by simp [h])]⟩
theorem zjj {args:List Int} {k:Int} {e:Xp} (h:Vx k e) (h2:(evR args e).2=true):valB (evR args e).1=true:=zeJ h _ ((zbA h).1 h2)
theorem zhA {args:List Int} {k:Int} {e:Xp} (h:Vx k e) (ho:e.op=1):evR args e=(e.n,true):=by cases e;simp only [Xp.op] at ho;rw [evR,if_pos ho];rfl
theorem zcq {args:List Int} {k:Int} {e:Xp} (h:Vx k e) (ho:e.op=2):0≤e.n∧e.n<k∧evR args e=(args.getD e.n.toNat 0,valB (args.getD e.n.toNat 0)):=by
 cases h with
 | num h=>cases ho
 | arg h0 h1=>exact ⟨h0,Int.lt_of_lt_of_le h1 (Int.min_le_left ..),by rw [evR,if_neg (by decide),if_pos rfl];rfl⟩
 | op h0 h1 _ _=>simp only [Xp.op] at ho;omega
theorem vx_op {k:Int} {e:Xp} (h:Vx k e) (h1:¬ e.op=1) (h2:¬ e.op=2):∃a b,e=.mk e.op 0 [a,b]∧3≤e.op∧e.op≤7∧Vx k a∧Vx k b:=by
 cases h with
 | num h=>exact absurd rfl h1
 | arg h0 _=>exact absurd rfl h2
 | op h0 h3 ha hb=>exact ⟨_,_,rfl,h0,h3,ha,hb⟩
theorem vx_at {k:Int} {e x:Xp} {n:Nat} (h:Vx k e) (hx:e.l[n]?=some x):Vx k x:=by
 cases h with
 | num h=>simp [Xp.l] at hx
 | arg h0 _=>simp [Xp.l] at hx
 | op h0 h3 ha hb =>
  match n,hx with
  | 0,h=>injection h with h;exact h ▸ ha
  | 1,h=>injection h with h;exact h ▸ hb
  | _+2,h=>simp [Xp.l] at h
theorem q6 {k:Int} {e:Xp} {n m:Nat} (h:Vx k e) (h1:¬ e.op=1) (h2:¬ e.op=2):∃a b,e.l[0]?=some a∧e.l[1]?=some b:=by
 obtain ⟨a,b,he,_⟩:=vx_op h h1 h2
 exact ⟨a,b,by rw [he];rfl,by rw [he];rfl⟩
theorem zdv {args:List Int} {k:Int} {e x y:Xp} {n m:Nat} (h:Vx k e) (h1:¬ e.op=1) (h2:¬ e.op=2) (hn:(0:Int)=n) (hm:(1:Int)=m) (hx:e.l[n]?=some x) (hy:e.l[m]?=some y):evR args e=if (evR args x).2=true∧(evR args y).2=true then (operX e.op (evR args x).1 (evR args y).1,valB (operX e.op (evR args x).1 (evR args y).1)) else (0,false):=by
 obtain ⟨a,b,he,_⟩:=vx_op h h1 h2
 obtain rfl:n=0:=by omega
 obtain rfl:m=1:=by omega
 have ex:x=a:=by rw [he] at hx;injection hx with hx;exact hx.symm
 have ey:y=b:=by rw [he] at hy;injection hy with hy;exact hy.symm
 subst ex;subst ey
 rw [he,evR,if_neg h1,if_neg h2,evRL,evRL,evRL]
 rfl
theorem zbm {l:List Int} {n:Nat} {x i:Int} (hi:i=n) (h:l[n]?=some x):l.getD i.toNat 0=x:=by subst hi;rw [Int.toNat_natCast,List.getD_eq_getElem?_getD,h];rfl
theorem op_in {a b:Int} (o:Int) (ha:valB a=true) (hb:valB b=true):-9223372036854775808≤operX o a b∧operX o a b<9223372036854775808:=by
 have h1:=zbf.1 ha
 have h2:=zbf.1 hb
 have h3:(a*b).natAbs≤1048576*1048576:=by rw [Int.natAbs_mul];exact Nat.mul_le_mul (by omega) (by omega)
 unfold operX
 (repeat' split)<;>omega
theorem zfH {w0:World} (o:Int) (a:Int) (b:Int) (v1:Bool) (v3:Int) (e1:((o == (3:Int)))=v1) (e3:(IntKind.i64.wrap (a+b))=v3) (h2:v1=true):Fun (KN w0) Tryd.prog 61 [.o (.c (pI o)),.o (.c (pI a)),.o (.c (pI b))] (.o (.c (pI v3))):=
 zi (zk (F:=FL [pI o,pI a,pI b,pB v1,pI v3] []) (C:=[(1000002,.bin .eql 3 (yh 0) (LF (.k (.int .i64 3))) (yh 3)),
  (10003,.fb 3 true),
  (1000006,.bin .add 3 (yh 1) (yh 2) (yh 4))]) (k:=⟨61,[yh 0,yh 1,yh 2],[],yh 4,[]⟩) 0 (zg ⟨za,za,za,za,za,trivial⟩) ⟨e_bin (zb rfl) zd (zb rfl) (r_cmp (congrArg some e1)),
  e_fbv h2,
  e_bin (zb rfl) (zb rfl) (zb rfl) (r_ar (congrArg some e3)),
  trivial⟩ mixed (by kernel_rfl))
theorem zfI {w0:World} (o:Int) (a:Int) (b:Int) (v1:Bool) (v3:Bool) (v5:Int) (e1:((o == (3:Int)))=v1) (e3:((o == (4:Int)))=v3) (e5:(IntKind.i64.wrap (a - b))=v5) (h2:v1=false) (h4:v3=true):Fun (KN w0) Tryd.prog 61 [.o (.c (pI o)),.o (.c (pI a)),.o (.c (pI b))] (.o (.c (pI v5))):=
 zi (zk (F:=FL [pI o,pI a,pI b,pB v1,pB v3,pI v5] []) (C:=[(1000002,.bin .eql 3 (yh 0) (LF (.k (.int .i64 3))) (yh 3)),
  (10003,.fb 3 false),
  (1000004,.bin .eql 3 (yh 0) (LF (.k (.int .i64 4))) (yh 4)),
  (10004,.fb 4 true),
  (1000008,.bin .sub 3 (yh 1) (yh 2) (yh 5))]) (k:=⟨61,[yh 0,yh 1,yh 2],[],yh 5,[]⟩) 0 (zg ⟨za,za,za,za,za,za,trivial⟩) ⟨e_bin (zb rfl) zd (zb rfl) (r_cmp (congrArg some e1)),
  e_fbv h2,
  e_bin (zb rfl) zd (zb rfl) (r_cmp (congrArg some e3)),
  e_fbv h4,
  e_bin (zb rfl) (zb rfl) (zb rfl) (r_ar (congrArg some e5)),
  trivial⟩ mixed (by kernel_rfl))
theorem zfJ {w0:World} (o:Int) (a:Int) (b:Int) (v1:Bool) (v3:Bool) (v5:Bool) (v7:Int) (e1:((o == (3:Int)))=v1) (e3:((o == (4:Int)))=v3) (e5:((o == (5:Int)))=v5) (e7:(IntKind.i64.wrap (a*b))=v7) (h2:v1=false) (h4:v3=false) (h6:v5=true):Fun (KN w0) Tryd.prog 61 [.o (.c (pI o)),.o (.c (pI a)),.o (.c (pI b))] (.o (.c (pI v7))):=
 zi (zk (F:=FL [pI o,pI a,pI b,pB v1,pB v3,pB v5,pI v7] []) (C:=[(1000002,.bin .eql 3 (yh 0) (LF (.k (.int .i64 3))) (yh 3)),
  (10003,.fb 3 false),
  (1000004,.bin .eql 3 (yh 0) (LF (.k (.int .i64 4))) (yh 4)),
  (10004,.fb 4 false),
  (1000006,.bin .eql 3 (yh 0) (LF (.k (.int .i64 5))) (yh 5)),
  (10005,.fb 5 true),
  (1000010,.bin .mul 3 (yh 1) (yh 2) (yh 6))]) (k:=⟨61,[yh 0,yh 1,yh 2],[],yh 6,[]⟩) 0 (zg ⟨za,za,za,za,za,za,za,trivial⟩) ⟨e_bin (zb rfl) zd (zb rfl) (r_cmp (congrArg some e1)),
  e_fbv h2,
  e_bin (zb rfl) zd (zb rfl) (r_cmp (congrArg some e3)),
  e_fbv h4,
  e_bin (zb rfl) zd (zb rfl) (r_cmp (congrArg some e5)),
  e_fbv h6,
  e_bin (zb rfl) (zb rfl) (zb rfl) (r_ar (congrArg some e7)),
  trivial⟩ mixed (by kernel_rfl))
theorem zfK {w0:World} (o:Int) (a:Int) (b:Int) (v1:Bool) (v3:Bool) (v5:Bool) (v7:Bool) (v9:Int) (e1:((o == (3:Int)))=v1) (e3:((o == (4:Int)))=v3) (e5:((o == (5:Int)))=v5) (e7:((o == (6:Int)))=v7) (e9:((if b<a then b else a))=v9) (h2:v1=false) (h4:v3=false) (h6:v5=false) (h8:v7=true):Fun (KN w0) Tryd.prog 61 [.o (.c (pI o)),.o (.c (pI a)),.o (.c (pI b))] (.o (.c (pI v9))):=
 zi (zk (F:=FL [pI o,pI a,pI b,pB v1,pB v3,pB v5,pB v7,pI v9] []) (C:=[(1000002,.bin .eql 3 (yh 0) (LF (.k (.int .i64 3))) (yh 3)),
  (10003,.fb 3 false),
  (1000004,.bin .eql 3 (yh 0) (LF (.k (.int .i64 4))) (yh 4)),
  (10004,.fb 4 false),
  (1000006,.bin .eql 3 (yh 0) (LF (.k (.int .i64 5))) (yh 5)),
  (10005,.fb 5 false),
  (1000008,.bin .eql 3 (yh 0) (LF (.k (.int .i64 6))) (yh 6)),
  (10006,.fb 6 true),
  (1000012,.op (.min [3,3] 3) [yh 1,yh 2] [] (yh 7))]) (k:=⟨61,[yh 0,yh 1,yh 2],[],yh 7,[]⟩) 0 (zg ⟨za,za,za,za,za,za,za,za,trivial⟩) ⟨e_bin (zb rfl) zd (zb rfl) (r_cmp (congrArg some e1)),
  e_fbv h2,
  e_bin (zb rfl) zd (zb rfl) (r_cmp (congrArg some e3)),
  e_fbv h4,
  e_bin (zb rfl) zd (zb rfl) (r_cmp (congrArg some e5)),
  e_fbv h6,
  e_bin (zb rfl) zd (zb rfl) (r_cmp (congrArg some e7)),
  e_fbv h8,
  e_op2 (zb rfl) (zb rfl) (zb rfl) (fun W=>by rw [← e9];exact zaB W),
  trivial⟩ mixed (by kernel_rfl))
theorem zfL {w0:World} (o:Int) (a:Int) (b:Int) (v1:Bool) (v3:Bool) (v5:Bool) (v7:Bool) (v9:Int) (e1:((o == (3:Int)))=v1) (e3:((o == (4:Int)))=v3) (e5:((o == (5:Int)))=v5) (e7:((o == (6:Int)))=v7) (e9:((if b > a then b else a))=v9) (h2:v1=false) (h4:v3=false) (h6:v5=false) (h8:v7=false):Fun (KN w0) Tryd.prog 61 [.o (.c (pI o)),.o (.c (pI a)),.o (.c (pI b))] (.o (.c (pI v9))):=
 zi (zk (F:=FL [pI o,pI a,pI b,pB v1,pB v3,pB v5,pB v7,pI v9] []) (C:=[(1000002,.bin .eql 3 (yh 0) (LF (.k (.int .i64 3))) (yh 3)),
  (10003,.fb 3 false),
  (1000004,.bin .eql 3 (yh 0) (LF (.k (.int .i64 4))) (yh 4)),
  (10004,.fb 4 false),
  (1000006,.bin .eql 3 (yh 0) (LF (.k (.int .i64 5))) (yh 5)),
  (10005,.fb 5 false),
  (1000008,.bin .eql 3 (yh 0) (LF (.k (.int .i64 6))) (yh 6)),
  (10006,.fb 6 false),
  (1000012,.op (.max [3,3] 3) [yh 1,yh 2] [] (yh 7))]) (k:=⟨61,[yh 0,yh 1,yh 2],[],yh 7,[]⟩) 0 (zg ⟨za,za,za,za,za,za,za,za,trivial⟩) ⟨e_bin (zb rfl) zd (zb rfl) (r_cmp (congrArg some e1)),
  e_fbv h2,
  e_bin (zb rfl) zd (zb rfl) (r_cmp (congrArg some e3)),
  e_fbv h4,
  e_bin (zb rfl) zd (zb rfl) (r_cmp (congrArg some e5)),
  e_fbv h6,
  e_bin (zb rfl) zd (zb rfl) (r_cmp (congrArg some e7)),
  e_fbv h8,
  e_op2 (zb rfl) (zb rfl) (zb rfl) (fun W=>by rw [← e9];exact zmI W),
  trivial⟩ mixed (by kernel_rfl))
theorem zkZ {w0:World} (o a b:Int) (r:Int) (hr:operX o a b=r) (ho:3≤o∧o≤7) (ha:valB a=true) (hb:valB b=true):Fun (KN w0) Tryd.prog 61 [.o (.c (pI o)),.o (.c (pI a)),.o (.c (pI b))] (.o (.c (pI r))):=by
 obtain ⟨v1,e1⟩:∃v,((o == (3:Int)))=v:=⟨_,rfl⟩
 cases h2:v1 with
 | true =>
  obtain ⟨v3,e3⟩:∃v,(IntKind.i64.wrap (a+b))=v:=⟨_,rfl⟩
  refine Fun.imp (zfH o a b v1 v3 e1 e3 h2) (fun _ _ _ h=>h) (fun v W D h=>?_)
  have r0:r=v3:=by
   (have dh2:=eq_of_beq (e1.trans h2);rw [← hr,← e3,← wri (op_in o ha hb)];clear hr;unfold operX;simp [*])
  rw [r0];exact h
 | false =>
  obtain ⟨v3,e3⟩:∃v,((o == (4:Int)))=v:=⟨_,rfl⟩
  cases h4:v3 with
  | true =>
   obtain ⟨v5,e5⟩:∃v,(IntKind.i64.wrap (a - b))=v:=⟨_,rfl⟩
   refine Fun.imp (zfI o a b v1 v3 v5 e1 e3 e5 h2 h4) (fun _ _ _ h=>h) (fun v W D h=>?_)
   have r0:r=v5:=by
    (have dh2:=ne_of_beq_false (e1.trans h2);have dh4:=eq_of_beq (e3.trans h4);rw [← hr,← e5,← wri (op_in o ha hb)];clear hr;unfold operX;simp [*])
   rw [r0];exact h
  | false =>
   obtain ⟨v5,e5⟩:∃v,((o == (5:Int)))=v:=⟨_,rfl⟩
   cases h6:v5 with
   | true =>
    obtain ⟨v7,e7⟩:∃v,(IntKind.i64.wrap (a*b))=v:=⟨_,rfl⟩
    refine Fun.imp (zfJ o a b v1 v3 v5 v7 e1 e3 e5 e7 h2 h4 h6) (fun _ _ _ h=>h) (fun v W D h=>?_)
    have r0:r=v7:=by
     (have dh2:=ne_of_beq_false (e1.trans h2);have dh4:=ne_of_beq_false (e3.trans h4);have dh6:=eq_of_beq (e5.trans h6);rw [← hr,← e7,← wri (op_in o ha hb)];clear hr;unfold operX;simp [*])
    rw [r0];exact h
   | false =>
    obtain ⟨v7,e7⟩:∃v,((o == (6:Int)))=v:=⟨_,rfl⟩
    cases h8:v7 with
    | true =>
     obtain ⟨v9,e9⟩:∃v,((if b<a then b else a))=v:=⟨_,rfl⟩
     refine Fun.imp (zfK o a b v1 v3 v5 v7 v9 e1 e3 e5 e7 e9 h2 h4 h6 h8) (fun _ _ _ h=>h) (fun v W D h=>?_)
     have r0:r=v9:=by
      (have dh2:=ne_of_beq_false (e1.trans h2);have dh4:=ne_of_beq_false (e3.trans h4);have dh6:=ne_of_beq_false (e5.trans h6);have dh8:=eq_of_beq (e7.trans h8);rw [← hr,← e9];unfold operX;rw [if_neg (by omega),if_neg (by omega),if_neg (by omega),if_pos (by omega)];split<;>omega)
     rw [r0];exact h
    | false =>
     obtain ⟨v9,e9⟩:∃v,((if b > a then b else a))=v:=⟨_,rfl⟩
     refine Fun.imp (zfL o a b v1 v3 v5 v7 v9 e1 e3 e5 e7 e9 h2 h4 h6 h8) (fun _ _ _ h=>h) (fun v W D h=>?_)
     have r0:r=v9:=by
      (have dh2:=ne_of_beq_false (e1.trans h2);have dh4:=ne_of_beq_false (e3.trans h4);have dh6:=ne_of_beq_false (e5.trans h6);have dh8:=ne_of_beq_false (e7.trans h8);rw [← hr,← e9];unfold operX;rw [if_neg (by omega),if_neg (by omega),if_neg (by omega),if_neg (by omega)];split<;>omega)
     rw [r0];exact h
def qS (w0:World) (N:Nat):Prop:=∀(x:Xp) (args:List Int) (v:Int) (b:Bool),(evR args x).1=v→(evR args x).2=b→Vx args.length x→nodes x≤N→Fun (KN w0) Tryd.prog 44 [.o (.g [pI x.op,pI x.n,pLs cE x.l]),.o (.c (pLs cI args))] (.t [.c (pI v),.c (pB b)])
theorem ziF {w0:World} (e:Xp) (args:(List Int)) (N:Nat) (IH:qS w0 N) (v1:Bool) (e1:((e.op == (1:Int)))=v1) (h2:v1=true):Fun (KN w0) Tryd.prog 44 [.o (.g [pI e.op,pI e.n,pLs cE e.l]),.o (.c (pLs cI args))] (.t [.c (pI e.n),.c (pV (.bool true))]):=
 zi (zk (F:=FL [pI e.op,pI e.n,pLs cE e.l,pLs cI args,pB v1] []) (C:=[(1000005,.bin .eql 3 (yh 0) (LF (.k (.int .i64 1))) (yh 4)),
  (10004,.fb 4 true)]) (k:=⟨44,[.o (.g [.h 0,.h 1,.h 2]),yh 3],[],.t [.c (.h 1),.c (.k (.bool true))],[]⟩) 0 (zg ⟨za,za,(ze (zf rfl)),(ze zj),za,trivial⟩) ⟨e_bin (zb rfl) zd (zb rfl) (r_cmp (congrArg some e1)),
  e_fbv h2,
  trivial⟩ mixed (by kernel_rfl))
theorem ziG {w0:World} (e:Xp) (args:(List Int)) (N:Nat) (IH:qS w0 N) (v1:Bool) (v3:Bool) (n5:Nat) (x6:Int) (n9:Nat) (x10:Int) (v13:Bool) (e1:((e.op == (1:Int)))=v1) (e3:((e.op == (2:Int)))=v3) (e13:(valB x10)=v13) (h2:v1=false) (h4:v3=true) (s7:e.n=(n5:Int)) (s8:args[n5]?=some x6) (s11:e.n=(n9:Int)) (s12:args[n9]?=some x10):Fun (KN w0) Tryd.prog 44 [.o (.g [pI e.op,pI e.n,pLs cE e.l]),.o (.c (pLs cI args))] (.t [.c (pI x6),.c (pB v13)]):=
 zi (zk (F:=FL [pI e.op,pI e.n,pLs cE e.l,pLs cI args,pB v1,pB v3,pP (cI x6),pI x6,pP (cI x10),pI x10,pB v13] []) (C:=[(1000005,.bin .eql 3 (yh 0) (LF (.k (.int .i64 1))) (yh 4)),
  (10004,.fb 4 false),
  (1000007,.bin .eql 3 (yh 0) (LF (.k (.int .i64 2))) (yh 5)),
  (10005,.fb 5 true),
  (1000012,.op (.ia 22) [yh 3,yh 1] [] (yh 6)),
  (1000013,.op (.ld 3) [yh 6] [] (yh 7)),
  (1000017,.op (.ia 22) [yh 3,yh 1] [] (yh 8)),
  (1000018,.op (.ld 3) [yh 8] [] (yh 9)),
  (1000019,.call ⟨60,[yh 9],[],yh 10,[]⟩)]) (k:=⟨44,[.o (.g [.h 0,.h 1,.h 2]),yh 3],[],.t [.c (.h 7),.c (.h 10)],[]⟩) 0 (zg ⟨za,za,(ze (zf rfl)),(ze zj),za,za,(zo (zj _)),za,(zo (zj _)),za,za,trivial⟩) ⟨e_bin (zb rfl) zd (zb rfl) (r_cmp (congrArg some e1)),
  e_fbv h2,
  e_bin (zb rfl) zd (zb rfl) (r_cmp (congrArg some e3)),
  e_fbv h4,
  e_iaL (E:=3) (z:=1) (fun _=>rfl) (by kernel_rfl) (by kernel_rfl) (zc rfl) (zb rfl) s7 s8 (zc rfl),
  e_ldP (by kernel_rfl) (zc rfl) (zc rfl),
  e_iaL (E:=3) (z:=1) (fun _=>rfl) (by kernel_rfl) (by kernel_rfl) (zc rfl) (zb rfl) s11 s12 (zc rfl),
  e_ldP (by kernel_rfl) (zc rfl) (zc rfl),
  zh (zcF x10 v13 e13),
  trivial⟩ mixed (by kernel_rfl))
theorem ziH {w0:World} (e:Xp) (args:(List Int)) (N:Nat) (IH:qS w0 N) (v1:Bool) (v3:Bool) (n5:Nat) (x6:Xp) (v9:Int) (v10:Bool) (n13:Nat) (x14:Xp) (v17:Int) (v18:Bool) (v21:Bool) (e1:((e.op == (1:Int)))=v1) (e3:((e.op == (2:Int)))=v3) (e9:((evR args x6).1)=v9) (e10:((evR args x6).2)=v10) (e17:((evR args x14).1)=v17) (e18:((evR args x14).2)=v18) (e21:(!v10)=v21) (h2:v1=false) (h4:v3=false) (s7:(0:Int)=(n5:Int)) (s8:e.l[n5]?=some x6) (s11:Vx args.length x6) (s12:nodes x6≤N) (s15:(1:Int)=(n13:Int)) (s16:e.l[n13]?=some x14) (s19:Vx args.length x14) (s20:nodes x14≤N) (h22:v21=true):Fun (KN w0) Tryd.prog 44 [.o (.g [pI e.op,pI e.n,pLs cE e.l]),.o (.c (pLs cI args))] (.t [.c (pV (.int .i64 0)),.c (pV (.bool false))]):=
 zi (zk (F:=FL [pI e.op,pI e.n,pLs cE e.l,pLs cI args,pB v1,pB v3,pP (cE x6),pI x6.op,pI x6.n,pLs cE x6.l,pI v9,pB v10,pP (cE x14),pI x14.op,pI x14.n,pLs cE x14.l,pI v17,pB v18,pB v21] []) (C:=[(1000005,.bin .eql 3 (yh 0) (LF (.k (.int .i64 1))) (yh 4)),
  (10004,.fb 4 false),
  (1000007,.bin .eql 3 (yh 0) (LF (.k (.int .i64 2))) (yh 5)),
  (10005,.fb 5 false),
  (1000011,.op (.ia 28) [yh 2,LF (.k (.int .i64 0))] [] (yh 6)),
  (1000012,.op (.ld 31) [yh 6] [] (.o (.g [.h 7,.h 8,.h 9]))),
  (1000014,.call ⟨44,[.o (.g [.h 7,.h 8,.h 9]),yh 3],[],.t [.c (.h 10),.c (.h 11)],[]⟩),
  (1000022,.op (.ia 28) [yh 2,LF (.k (.int .i64 1))] [] (yh 12)),
  (1000023,.op (.ld 31) [yh 12] [] (.o (.g [.h 13,.h 14,.h 15]))),
  (1000025,.call ⟨44,[.o (.g [.h 13,.h 14,.h 15]),yh 3],[],.t [.c (.h 16),.c (.h 17)],[]⟩),
  (1000032,.un .not (yh 11) (yh 18)),
  (10018,.fb 18 true)]) (k:=⟨44,[.o (.g [.h 0,.h 1,.h 2]),yh 3],[],.t [.c (.k (.int .i64 0)),.c (.k (.bool false))],[]⟩) 0 (zg ⟨za,za,(ze (zf rfl)),(ze zj),za,za,(zo ((zf rfl) _)),za,za,(ze (zf rfl)),za,za,(zo ((zf rfl) _)),za,za,(ze (zf rfl)),za,za,za,trivial⟩) ⟨e_bin (zb rfl) zd (zb rfl) (r_cmp (congrArg some e1)),
  e_fbv h2,
  e_bin (zb rfl) zd (zb rfl) (r_cmp (congrArg some e3)),
  e_fbv h4,
  e_iaL (E:=31) (z:=3) zm (by kernel_rfl) (by kernel_rfl) (zc rfl) zd s7 s8 (zc rfl),
  e_ldG (by kernel_rfl) (by kernel_rfl) (zc rfl) (cE_eq _).symm rfl (zm _),
  zh (IH x6 args v9 v10 e9 e10 s11 s12),
  e_iaL (E:=31) (z:=3) zm (by kernel_rfl) (by kernel_rfl) (zc rfl) zd s15 s16 (zc rfl),
  e_ldG (by kernel_rfl) (by kernel_rfl) (zc rfl) (cE_eq _).symm rfl (zm _),
  zh (IH x14 args v17 v18 e17 e18 s19 s20),
  e_un (zb rfl) (zb rfl) (fun W=>by rw [← e21];exact r_not W),
  e_fbv h22,
  trivial⟩ mixed (by kernel_rfl))
theorem ziI {w0:World} (e:Xp) (args:(List Int)) (N:Nat) (IH:qS w0 N) (v1:Bool) (v3:Bool) (n5:Nat) (x6:Xp) (v9:Int) (v10:Bool) (n13:Nat) (x14:Xp) (v17:Int) (v18:Bool) (v21:Bool) (v23:Bool) (e1:((e.op == (1:Int)))=v1) (e3:((e.op == (2:Int)))=v3) (e9:((evR args x6).1)=v9) (e10:((evR args x6).2)=v10) (e17:((evR args x14).1)=v17) (e18:((evR args x14).2)=v18) (e21:(!v10)=v21) (e23:(!v18)=v23) (h2:v1=false) (h4:v3=false) (s7:(0:Int)=(n5:Int)) (s8:e.l[n5]?=some x6) (s11:Vx args.length x6) (s12:nodes x6≤N) (s15:(1:Int)=(n13:Int)) (s16:e.l[n13]?=some x14) (s19:Vx args.length x14) (s20:nodes x14≤N) (h22:v21=false) (h24:v23=true):Fun (KN w0) Tryd.prog 44 [.o (.g [pI e.op,pI e.n,pLs cE e.l]),.o (.c (pLs cI args))] (.t [.c (pV (.int .i64 0)),.c (pV (.bool false))]):=
 zi (zk (F:=FL [pI e.op,pI e.n,pLs cE e.l,pLs cI args,pB v1,pB v3,pP (cE x6),pI x6.op,pI x6.n,pLs cE x6.l,pI v9,pB v10,pP (cE x14),pI x14.op,pI x14.n,pLs cE x14.l,pI v17,pB v18,pB v21,pB v23] []) (C:=[(1000005,.bin .eql 3 (yh 0) (LF (.k (.int .i64 1))) (yh 4)),
  (10004,.fb 4 false),
  (1000007,.bin .eql 3 (yh 0) (LF (.k (.int .i64 2))) (yh 5)),
  (10005,.fb 5 false),
  (1000011,.op (.ia 28) [yh 2,LF (.k (.int .i64 0))] [] (yh 6)),
  (1000012,.op (.ld 31) [yh 6] [] (.o (.g [.h 7,.h 8,.h 9]))),
  (1000014,.call ⟨44,[.o (.g [.h 7,.h 8,.h 9]),yh 3],[],.t [.c (.h 10),.c (.h 11)],[]⟩),
  (1000022,.op (.ia 28) [yh 2,LF (.k (.int .i64 1))] [] (yh 12)),
  (1000023,.op (.ld 31) [yh 12] [] (.o (.g [.h 13,.h 14,.h 15]))),
  (1000025,.call ⟨44,[.o (.g [.h 13,.h 14,.h 15]),yh 3],[],.t [.c (.h 16),.c (.h 17)],[]⟩),
  (1000032,.un .not (yh 11) (yh 18)),
  (10018,.fb 18 false),
  (1000035,.un .not (yh 17) (yh 19)),
  (10019,.fb 19 true)]) (k:=⟨44,[.o (.g [.h 0,.h 1,.h 2]),yh 3],[],.t [.c (.k (.int .i64 0)),.c (.k (.bool false))],[]⟩) 0 (zg ⟨za,za,(ze (zf rfl)),(ze zj),za,za,(zo ((zf rfl) _)),za,za,(ze (zf rfl)),za,za,(zo ((zf rfl) _)),za,za,(ze (zf rfl)),za,za,za,za,trivial⟩) ⟨e_bin (zb rfl) zd (zb rfl) (r_cmp (congrArg some e1)),
  e_fbv h2,
  e_bin (zb rfl) zd (zb rfl) (r_cmp (congrArg some e3)),
  e_fbv h4,
  e_iaL (E:=31) (z:=3) zm (by kernel_rfl) (by kernel_rfl) (zc rfl) zd s7 s8 (zc rfl),
  e_ldG (by kernel_rfl) (by kernel_rfl) (zc rfl) (cE_eq _).symm rfl (zm _),
  zh (IH x6 args v9 v10 e9 e10 s11 s12),
  e_iaL (E:=31) (z:=3) zm (by kernel_rfl) (by kernel_rfl) (zc rfl) zd s15 s16 (zc rfl),
  e_ldG (by kernel_rfl) (by kernel_rfl) (zc rfl) (cE_eq _).symm rfl (zm _),
  zh (IH x14 args v17 v18 e17 e18 s19 s20),
  e_un (zb rfl) (zb rfl) (fun W=>by rw [← e21];exact r_not W),
  e_fbv h22,
  e_un (zb rfl) (zb rfl) (fun W=>by rw [← e23];exact r_not W),
  e_fbv h24,
  trivial⟩ mixed (by kernel_rfl))
theorem ziJ {w0:World} (e:Xp) (args:(List Int)) (N:Nat) (IH:qS w0 N) (v1:Bool) (v3:Bool) (n5:Nat) (x6:Xp) (v9:Int) (v10:Bool) (n13:Nat) (x14:Xp) (v17:Int) (v18:Bool) (v21:Bool) (v23:Bool) (v25:Int) (v29:Bool) (e1:((e.op == (1:Int)))=v1) (e3:((e.op == (2:Int)))=v3) (e9:((evR args x6).1)=v9) (e10:((evR args x6).2)=v10) (e17:((evR args x14).1)=v17) (e18:((evR args x14).2)=v18) (e21:(!v10)=v21) (e23:(!v18)=v23) (e25:(operX e.op v9 v17)=v25) (e29:(valB v25)=v29) (h2:v1=false) (h4:v3=false) (s7:(0:Int)=(n5:Int)) (s8:e.l[n5]?=some x6) (s11:Vx args.length x6) (s12:nodes x6≤N) (s15:(1:Int)=(n13:Int)) (s16:e.l[n13]?=some x14) (s19:Vx args.length x14) (s20:nodes x14≤N) (h22:v21=false) (h24:v23=false) (s26:3≤e.op∧e.op≤7) (s27:valB v9=true) (s28:valB v17=true):Fun (KN w0) Tryd.prog 44 [.o (.g [pI e.op,pI e.n,pLs cE e.l]),.o (.c (pLs cI args))] (.t [.c (pI v25),.c (pB v29)]):=
 zi (zk (F:=FL [pI e.op,pI e.n,pLs cE e.l,pLs cI args,pB v1,pB v3,pP (cE x6),pI x6.op,pI x6.n,pLs cE x6.l,pI v9,pB v10,pP (cE x14),pI x14.op,pI x14.n,pLs cE x14.l,pI v17,pB v18,pB v21,pB v23,pI v25,pB v29] []) (C:=[(1000005,.bin .eql 3 (yh 0) (LF (.k (.int .i64 1))) (yh 4)),
  (10004,.fb 4 false),
  (1000007,.bin .eql 3 (yh 0) (LF (.k (.int .i64 2))) (yh 5)),
  (10005,.fb 5 false),
  (1000011,.op (.ia 28) [yh 2,LF (.k (.int .i64 0))] [] (yh 6)),
  (1000012,.op (.ld 31) [yh 6] [] (.o (.g [.h 7,.h 8,.h 9]))),
  (1000014,.call ⟨44,[.o (.g [.h 7,.h 8,.h 9]),yh 3],[],.t [.c (.h 10),.c (.h 11)],[]⟩),
  (1000022,.op (.ia 28) [yh 2,LF (.k (.int .i64 1))] [] (yh 12)),
  (1000023,.op (.ld 31) [yh 12] [] (.o (.g [.h 13,.h 14,.h 15]))),
  (1000025,.call ⟨44,[.o (.g [.h 13,.h 14,.h 15]),yh 3],[],.t [.c (.h 16),.c (.h 17)],[]⟩),
  (1000032,.un .not (yh 11) (yh 18)),
  (10018,.fb 18 false),
  (1000035,.un .not (yh 17) (yh 19)),
  (10019,.fb 19 false),
  (1000041,.call ⟨61,[yh 0,yh 10,yh 16],[],yh 20,[]⟩),
  (1000045,.call ⟨60,[yh 20],[],yh 21,[]⟩)]) (k:=⟨44,[.o (.g [.h 0,.h 1,.h 2]),yh 3],[],.t [.c (.h 20),.c (.h 21)],[]⟩) 0 (zg ⟨za,za,(ze (zf rfl)),(ze zj),za,za,(zo ((zf rfl) _)),za,za,(ze (zf rfl)),za,za,(zo ((zf rfl) _)),za,za,(ze (zf rfl)),za,za,za,za,za,za,trivial⟩) ⟨e_bin (zb rfl) zd (zb rfl) (r_cmp (congrArg some e1)),
  e_fbv h2,
  e_bin (zb rfl) zd (zb rfl) (r_cmp (congrArg some e3)),
  e_fbv h4,
  e_iaL (E:=31) (z:=3) zm (by kernel_rfl) (by kernel_rfl) (zc rfl) zd s7 s8 (zc rfl),
  e_ldG (by kernel_rfl) (by kernel_rfl) (zc rfl) (cE_eq _).symm rfl (zm _),
  zh (IH x6 args v9 v10 e9 e10 s11 s12),
  e_iaL (E:=31) (z:=3) zm (by kernel_rfl) (by kernel_rfl) (zc rfl) zd s15 s16 (zc rfl),
  e_ldG (by kernel_rfl) (by kernel_rfl) (zc rfl) (cE_eq _).symm rfl (zm _),
  zh (IH x14 args v17 v18 e17 e18 s19 s20),
  e_un (zb rfl) (zb rfl) (fun W=>by rw [← e21];exact r_not W),
  e_fbv h22,
  e_un (zb rfl) (zb rfl) (fun W=>by rw [← e23];exact r_not W),
  e_fbv h24,
  zh (zkZ e.op v9 v17 v25 e25 s26 s27 s28),
  zh (zcF v25 v29 e29),
  trivial⟩ mixed (by kernel_rfl))
theorem zla {w0:World} {N:Nat} (IH:qS w0 N) (e:Xp) (args:List Int) (rv:Int) (rb:Bool) (hv:(evR args e).1=rv) (hb:(evR args e).2=rb) (hx:Vx args.length e) (hN:nodes e≤N+1):Fun (KN w0) Tryd.prog 44 [.o (.g [pI e.op,pI e.n,pLs cE e.l]),.o (.c (pLs cI args))] (.t [.c (pI rv),.c (pB rb)]):=by
 obtain ⟨v1,e1⟩:∃v,((e.op == (1:Int)))=v:=⟨_,rfl⟩
 cases h2:v1 with
 | true =>
  refine Fun.imp (ziF e args N IH v1 e1 h2) (fun _ _ _ h=>h) (fun v W D h=>?_)
  have r0:rv=e.n:=by
   first | (have dh2:=eq_of_beq (e1.trans h2);rw [← hv,zhA (args:=args) hx (by assumption)]) | (have dh2:=eq_of_beq (e1.trans h2);rw [← hb,zhA (args:=args) hx (by assumption)])
  have r1:rb=true:=by
   first | (have dh2:=eq_of_beq (e1.trans h2);rw [← hv,zhA (args:=args) hx (by assumption)]) | (have dh2:=eq_of_beq (e1.trans h2);rw [← hb,zhA (args:=args) hx (by assumption)])
  rw [r0,r1];exact h
 | false =>
  obtain ⟨v3,e3⟩:∃v,((e.op == (2:Int)))=v:=⟨_,rfl⟩
  cases h4:v3 with
  | true =>
   obtain ⟨n5,x6,s7,s8⟩:∃(n5:Nat) (x6:Int),e.n=(n5:Int)∧args[n5]?=some x6:=by (have dh2:=ne_of_beq_false (e1.trans h2);have dh4:=eq_of_beq (e3.trans h4);have q:=zcq (args:=args) hx (by assumption);exact ⟨e.n.toNat,_,by omega,List.getElem?_eq_getElem (by omega)⟩)
   obtain ⟨n9,x10,s11,s12⟩:∃(n9:Nat) (x10:Int),e.n=(n9:Int)∧args[n9]?=some x10:=by (have dh2:=ne_of_beq_false (e1.trans h2);have dh4:=eq_of_beq (e3.trans h4);have q:=zcq (args:=args) hx (by assumption);exact ⟨e.n.toNat,_,by omega,List.getElem?_eq_getElem (by omega)⟩)
   obtain ⟨v13,e13⟩:∃v,(valB x10)=v:=⟨_,rfl⟩
   refine Fun.imp (ziG e args N IH v1 v3 n5 x6 n9 x10 v13 e1 e3 e13 h2 h4 s7 s8 s11 s12) (fun _ _ _ h=>h) (fun v W D h=>?_)
   have r0:rv=x6:=by
    first | (have dh2:=ne_of_beq_false (e1.trans h2);have dh4:=eq_of_beq (e3.trans h4);have q:=(zcq (args:=args) hx (by assumption)).2.2;rw [zbm s7 s8] at q;rw [← hv,q]) | (have dh2:=ne_of_beq_false (e1.trans h2);have dh4:=eq_of_beq (e3.trans h4);have q:=(zcq (args:=args) hx (by assumption)).2.2;rw [zbm s11 s12] at q;rw [← hb,q];assumption)
   have r1:rb=v13:=by
    first | (have dh2:=ne_of_beq_false (e1.trans h2);have dh4:=eq_of_beq (e3.trans h4);have q:=(zcq (args:=args) hx (by assumption)).2.2;rw [zbm s7 s8] at q;rw [← hv,q]) | (have dh2:=ne_of_beq_false (e1.trans h2);have dh4:=eq_of_beq (e3.trans h4);have q:=(zcq (args:=args) hx (by assumption)).2.2;rw [zbm s11 s12] at q;rw [← hb,q];assumption)
   rw [r0,r1];exact h
  | false =>
   obtain ⟨n5,x6,s7,s8⟩:∃(n5:Nat) (x6:Xp),(0:Int)=(n5:Int)∧e.l[n5]?=some x6:=by (have dh2:=ne_of_beq_false (e1.trans h2);have dh4:=ne_of_beq_false (e3.trans h4);obtain ⟨a,b,q1,q2⟩:=q6 (n:=0) (m:=0) hx (by assumption) (by assumption);exact ⟨0,_,rfl,q1⟩)
   obtain ⟨v9,e9⟩:∃v,((evR args x6).1)=v:=⟨_,rfl⟩
   obtain ⟨v10,e10⟩:∃v,((evR args x6).2)=v:=⟨_,rfl⟩
   have s11:Vx args.length x6:=by exact vx_at hx s8
   have s12:nodes x6≤N:=by exact zv hN s8
   obtain ⟨n13,x14,s15,s16⟩:∃(n13:Nat) (x14:Xp),(1:Int)=(n13:Int)∧e.l[n13]?=some x14:=by (have dh2:=ne_of_beq_false (e1.trans h2);have dh4:=ne_of_beq_false (e3.trans h4);obtain ⟨a,b,q1,q2⟩:=q6 (n:=0) (m:=0) hx (by assumption) (by assumption);exact ⟨1,_,rfl,q2⟩)
   obtain ⟨v17,e17⟩:∃v,((evR args x14).1)=v:=⟨_,rfl⟩
   obtain ⟨v18,e18⟩:∃v,((evR args x14).2)=v:=⟨_,rfl⟩
   have s19:Vx args.length x14:=by exact vx_at hx s16
   have s20:nodes x14≤N:=by exact zv hN s16
   obtain ⟨v21,e21⟩:∃v,(!v10)=v:=⟨_,rfl⟩
   cases h22:v21 with
   | true =>
    refine Fun.imp (ziH e args N IH v1 v3 n5 x6 v9 v10 n13 x14 v17 v18 v21 e1 e3 e9 e10 e17 e18 e21 h2 h4 s7 s8 s11 s12 s15 s16 s19 s20 h22) (fun _ _ _ h=>h) (fun v W D h=>?_)
    have r0:rv=(0:Int):=by
     first | (have dh2:=ne_of_beq_false (e1.trans h2);have dh4:=ne_of_beq_false (e3.trans h4);have q:=zdv (args:=args) hx (by assumption) (by assumption) s7 s15 s8 s16;simp_all)
    have r1:rb=false:=by
     first | (have dh2:=ne_of_beq_false (e1.trans h2);have dh4:=ne_of_beq_false (e3.trans h4);have q:=zdv (args:=args) hx (by assumption) (by assumption) s7 s15 s8 s16;simp_all)
    rw [r0,r1];exact h
   | false =>
    obtain ⟨v23,e23⟩:∃v,(!v18)=v:=⟨_,rfl⟩
    cases h24:v23 with
    | true =>
     refine Fun.imp (ziI e args N IH v1 v3 n5 x6 v9 v10 n13 x14 v17 v18 v21 v23 e1 e3 e9 e10 e17 e18 e21 e23 h2 h4 s7 s8 s11 s12 s15 s16 s19 s20 h22 h24) (fun _ _ _ h=>h) (fun v W D h=>?_)
     have r0:rv=(0:Int):=by
      first | (have dh2:=ne_of_beq_false (e1.trans h2);have dh4:=ne_of_beq_false (e3.trans h4);have q:=zdv (args:=args) hx (by assumption) (by assumption) s7 s15 s8 s16;simp_all)
     have r1:rb=false:=by
      first | (have dh2:=ne_of_beq_false (e1.trans h2);have dh4:=ne_of_beq_false (e3.trans h4);have q:=zdv (args:=args) hx (by assumption) (by assumption) s7 s15 s8 s16;simp_all)
     rw [r0,r1];exact h
    | false =>
     obtain ⟨v25,e25⟩:∃v,(operX e.op v9 v17)=v:=⟨_,rfl⟩
     have s26:3≤e.op∧e.op≤7:=by (have dh2:=ne_of_beq_false (e1.trans h2);have dh4:=ne_of_beq_false (e3.trans h4);obtain ⟨a,b,q1,q2,q3,_⟩:=vx_op hx (by assumption) (by assumption);exact ⟨q2,q3⟩)
     have s27:valB v9=true:=by (rw [← e9];exact zjj (vx_at hx s8) (e10.trans (by simp_all)))
     have s28:valB v17=true:=by (rw [← e17];exact zjj (vx_at hx s16) (e18.trans (by simp_all)))
     obtain ⟨v29,e29⟩:∃v,(valB v25)=v:=⟨_,rfl⟩
     refine Fun.imp (ziJ e args N IH v1 v3 n5 x6 v9 v10 n13 x14 v17 v18 v21 v23 v25 v29 e1 e3 e9 e10 e17 e18 e21 e23 e25 e29 h2 h4 s7 s8 s11 s12 s15 s16 s19 s20 h22 h24 s26 s27 s28) (fun _ _ _ h=>h) (fun v W D h=>?_)
     have r0:rv=v25:=by
      first | (have dh2:=ne_of_beq_false (e1.trans h2);have dh4:=ne_of_beq_false (e3.trans h4);have q:=zdv (args:=args) hx (by assumption) (by assumption) s7 s15 s8 s16;simp_all)
     have r1:rb=v29:=by
      first | (have dh2:=ne_of_beq_false (e1.trans h2);have dh4:=ne_of_beq_false (e3.trans h4);have q:=zdv (args:=args) hx (by assumption) (by assumption) s7 s15 s8 s16;simp_all)
     rw [r0,r1];exact h
theorem zdc {w0:World}:∀N:Nat,qS w0 N
 | 0=>fun x args v b _ _ _ h=>by have:=qb x;omega
 | N+1=>fun x args v b hv hb hx h=>zla (zdc N) x args v b hv hb hx h
theorem zk9 {w0:World} (x:Xp) (args:List Int) (v:Int) (b:Bool) (hv:(evR args x).1=v) (hb:(evR args x).2=b) (hx:Vx args.length x):Fun (KN w0) Tryd.prog 44 [.o (.g [pI x.op,pI x.n,pLs cE x.l]),.o (.c (pLs cI args))] (.t [.c (pI v),.c (pB b)]):=zdc (nodes x) x args v b hv hb hx (Nat.le_refl _)
theorem ziB {w0:World} (e:Xp) (args:(List Int)) (v1:Int) (v2:Int) (v4:Bool) (e1:((args.length:Int))=v1) (e2:(zO e v1)=v2) (e4:((v2 != (0:Int)))=v4) (s3:nodes e≤1000000) (h5:v4=true):Fun (KN w0) Tryd.prog 14 [.o (.g [pI e.op,pI e.n,pLs cE e.l]),.o (.c (pLs cI args))] (.t [.c (pV (.int .i64 0)),.c (pI v2)]):=
 zi (zk (F:=FL [pI e.op,pI e.n,pLs cE e.l,pLs cI args,pI v1,pI v2,pB v4] []) (C:=[(1000005,.op (.len [22] 3) [yh 3] [] (yh 4)),
  (1000006,.call ⟨12,[.o (.g [.h 0,.h 1,.h 2]),yh 4],[],yh 5,[]⟩),
  (1000009,.bin .neq 33 (yh 5) (LF (.k (.int .i64 0))) (yh 6)),
  (10006,.fb 6 true)]) (k:=⟨14,[.o (.g [.h 0,.h 1,.h 2]),yh 3],[],.t [.c (.k (.int .i64 0)),.c (.h 5)],[]⟩) 0 (zg ⟨za,za,(ze (zf rfl)),(ze zj),za,za,za,trivial⟩) ⟨zn (E:=3) (by kernel_rfl) (zc rfl) (zb (by rw [← e1];rfl)),
  zh (zcE e v1 v2 e2 s3),
  e_bin (zb rfl) zd (zb rfl) (r_cmp (congrArg some e4)),
  e_fbv h5,
  trivial⟩ mixed (by kernel_rfl))
theorem ziC {w0:World} (e:Xp) (args:(List Int)) (v1:Int) (v2:Int) (v4:Bool) (v6:Int) (v7:Bool) (v9:Bool) (e1:((args.length:Int))=v1) (e2:(zO e v1)=v2) (e4:((v2 != (0:Int)))=v4) (e6:((evR args e).1)=v6) (e7:((evR args e).2)=v7) (e9:(!v7)=v9) (s3:nodes e≤1000000) (h5:v4=false) (s8:Vx args.length e) (h10:v9=true):Fun (KN w0) Tryd.prog 14 [.o (.g [pI e.op,pI e.n,pLs cE e.l]),.o (.c (pLs cI args))] (.t [.c (pV (.int .i64 0)),.c (pV (.int .i64 3))]):=
 zi (zk (F:=FL [pI e.op,pI e.n,pLs cE e.l,pLs cI args,pI v1,pI v2,pB v4,pI v6,pB v7,pB v9] []) (C:=[(1000005,.op (.len [22] 3) [yh 3] [] (yh 4)),
  (1000006,.call ⟨12,[.o (.g [.h 0,.h 1,.h 2]),yh 4],[],yh 5,[]⟩),
  (1000009,.bin .neq 33 (yh 5) (LF (.k (.int .i64 0))) (yh 6)),
  (10006,.fb 6 false),
  (1000012,.call ⟨44,[.o (.g [.h 0,.h 1,.h 2]),yh 3],[],.t [.c (.h 7),.c (.h 8)],[]⟩),
  (1000019,.un .not (yh 8) (yh 9)),
  (10009,.fb 9 true)]) (k:=⟨14,[.o (.g [.h 0,.h 1,.h 2]),yh 3],[],.t [.c (.k (.int .i64 0)),.c (.k (.int .i64 3))],[]⟩) 0 (zg ⟨za,za,(ze (zf rfl)),(ze zj),za,za,za,za,za,za,trivial⟩) ⟨zn (E:=3) (by kernel_rfl) (zc rfl) (zb (by rw [← e1];rfl)),
  zh (zcE e v1 v2 e2 s3),
  e_bin (zb rfl) zd (zb rfl) (r_cmp (congrArg some e4)),
  e_fbv h5,
  zh (zk9 e args v6 v7 e6 e7 s8),
  e_un (zb rfl) (zb rfl) (fun W=>by rw [← e9];exact r_not W),
  e_fbv h10,
  trivial⟩ mixed (by kernel_rfl))
theorem ziD {w0:World} (e:Xp) (args:(List Int)) (v1:Int) (v2:Int) (v4:Bool) (v6:Int) (v7:Bool) (v9:Bool) (e1:((args.length:Int))=v1) (e2:(zO e v1)=v2) (e4:((v2 != (0:Int)))=v4) (e6:((evR args e).1)=v6) (e7:((evR args e).2)=v7) (e9:(!v7)=v9) (s3:nodes e≤1000000) (h5:v4=false) (s8:Vx args.length e) (h10:v9=false):Fun (KN w0) Tryd.prog 14 [.o (.g [pI e.op,pI e.n,pLs cE e.l]),.o (.c (pLs cI args))] (.t [.c (pI v6),.c (pV (.int .i64 0))]):=
 zi (zk (F:=FL [pI e.op,pI e.n,pLs cE e.l,pLs cI args,pI v1,pI v2,pB v4,pI v6,pB v7,pB v9] []) (C:=[(1000005,.op (.len [22] 3) [yh 3] [] (yh 4)),
  (1000006,.call ⟨12,[.o (.g [.h 0,.h 1,.h 2]),yh 4],[],yh 5,[]⟩),
  (1000009,.bin .neq 33 (yh 5) (LF (.k (.int .i64 0))) (yh 6)),
  (10006,.fb 6 false),
  (1000012,.call ⟨44,[.o (.g [.h 0,.h 1,.h 2]),yh 3],[],.t [.c (.h 7),.c (.h 8)],[]⟩),
  (1000019,.un .not (yh 8) (yh 9)),
  (10009,.fb 9 false)]) (k:=⟨14,[.o (.g [.h 0,.h 1,.h 2]),yh 3],[],.t [.c (.h 7),.c (.k (.int .i64 0))],[]⟩) 0 (zg ⟨za,za,(ze (zf rfl)),(ze zj),za,za,za,za,za,za,trivial⟩) ⟨zn (E:=3) (by kernel_rfl) (zc rfl) (zb (by rw [← e1];rfl)),
  zh (zcE e v1 v2 e2 s3),
  e_bin (zb rfl) zd (zb rfl) (r_cmp (congrArg some e4)),
  e_fbv h5,
  zh (zk9 e args v6 v7 e6 e7 s8),
  e_un (zb rfl) (zb rfl) (fun W=>by rw [← e9];exact r_not W),
  e_fbv h10,
  trivial⟩ mixed (by kernel_rfl))
theorem zn0 {w0:World} (e:Xp) (args:List Int) (r k:Int) (hr:(evalE e args).1=r) (hk:(evalE e args).2=k) (hn:nodes e≤1000000):Fun (KN w0) Tryd.prog 14 [.o (.g [pI e.op,pI e.n,pLs cE e.l]),.o (.c (pLs cI args))] (.t [.c (pI r),.c (pI k)]):=by
 obtain ⟨v1,e1⟩:∃v,((args.length:Int))=v:=⟨_,rfl⟩
 obtain ⟨v2,e2⟩:∃v,(zO e v1)=v:=⟨_,rfl⟩
 have s3:nodes e≤1000000:=by exact hn
 obtain ⟨v4,e4⟩:∃v,((v2 != (0:Int)))=v:=⟨_,rfl⟩
 cases h5:v4 with
 | true =>
  refine Fun.imp (ziB e args v1 v2 v4 e1 e2 e4 s3 h5) (fun _ _ _ h=>h) (fun v W D h=>?_)
  have r0:r=(0:Int):=by
   (have dh5:=bne_iff_ne.1 (e4.trans h5);unfold evalE at hr hk;simp_all)
  have r1:k=v2:=by
   (have dh5:=bne_iff_ne.1 (e4.trans h5);unfold evalE at hr hk;simp_all)
  rw [r0,r1];exact h
 | false =>
  obtain ⟨v6,e6⟩:∃v,((evR args e).1)=v:=⟨_,rfl⟩
  obtain ⟨v7,e7⟩:∃v,((evR args e).2)=v:=⟨_,rfl⟩
  have s8:Vx args.length e:=by (have dh5:=bne_eq_false_iff_eq.1 (e4.trans h5);exact (zat.1 (by simp_all)).2)
  obtain ⟨v9,e9⟩:∃v,(!v7)=v:=⟨_,rfl⟩
  cases h10:v9 with
  | true =>
   refine Fun.imp (ziC e args v1 v2 v4 v6 v7 v9 e1 e2 e4 e6 e7 e9 s3 h5 s8 h10) (fun _ _ _ h=>h) (fun v W D h=>?_)
   have r0:r=(0:Int):=by
    (have dh5:=bne_eq_false_iff_eq.1 (e4.trans h5);unfold evalE at hr hk;have q:=zbA (args:=args) s8;simp_all)
   have r1:k=(3:Int):=by
    (have dh5:=bne_eq_false_iff_eq.1 (e4.trans h5);unfold evalE at hr hk;have q:=zbA (args:=args) s8;simp_all)
   rw [r0,r1];exact h
  | false =>
   refine Fun.imp (ziD e args v1 v2 v4 v6 v7 v9 e1 e2 e4 e6 e7 e9 s3 h5 s8 h10) (fun _ _ _ h=>h) (fun v W D h=>?_)
   have r0:r=v6:=by
    (have dh5:=bne_eq_false_iff_eq.1 (e4.trans h5);unfold evalE at hr hk;have q:=zbA (args:=args) s8;simp_all)
   have r1:k=(0:Int):=by
    (have dh5:=bne_eq_false_iff_eq.1 (e4.trans h5);unfold evalE at hr hk;have q:=zbA (args:=args) s8;simp_all)
   rw [r0,r1];exact h
end Go.Proofs.YtdkofaajcpcjkaaDoor
