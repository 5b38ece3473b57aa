/-
  Merged: ExE, ExF.
-/
import Derived.Test.YtdkofaajcpcjkaaDoorMfJ
set_option linter.unusedSimpArgs false
set_option linter.unusedVariables false
set_option maxRecDepth 100000
namespace Go.Proofs.YtdkofaajcpcjkaaDoor
open Go.RowKit
theorem zdY (e:Xp) (a:Int):chkX e a=if zp e.op e.n e.l.length a≠0 then zp e.op e.n e.l.length a else chkL e.l a:=by cases e;rw [chkX];rfl
def z8 (w0:World) (N:Nat):Prop:=∀(x:Xp) (a v:Int),chkX x a=v→nodes x≤N→Fun (KN w0) Tryd.prog 32 [.o (.g [pI x.op,pI x.n,pLs cE x.l]),.o (.c (pI a))] (.o (.c (pI v)))
structure x_check_A_T where
 i:Int
def zE:List Atom:=[.sl 0 (.o (.g [.h 0,.h 1,.h 2])),.sl 1 (yh 3),.sl 2 (.o (.c (.p 0 0))),.sl 5 (yh 4),.sl 9 (.o (.g [.h 0,.h 1,.h 2])),.sl 10 (yh 3),.sl 11 (yh 4),.sl 12 (yh 4),.sl 13 (yh 5),.sl 15 (.o (.c (.p 0 2))),.sl 16 (yh 2),.sl 17 (yh 6),.sl 18 (yh 7),.bx 0 31 [.h 0,.h 1,.h 2]]
def qQ:LoopS:=⟨5,[.sl 0 (.o (.g [.h 0,.h 1,.h 2])),.sl 1 (yh 3),.sl 2 (.o (.c (.p 0 0))),.sl 5 (yh 4),.sl 9 (.o (.g [.h 0,.h 1,.h 2])),.sl 10 (yh 3),.sl 11 (yh 4),.sl 12 (yh 4),.sl 13 (yh 5),.sl 15 (.o (.c (.p 0 2))),.sl 16 (yh 2),.sl 17 (yh 6),.sl 18 (.o (.c (.k (.int .i64 0)))),.bx 0 31 [.h 0,.h 1,.h 2]],(.x 0),[.sl 0 (.o (.g [.h 0,.h 1,.h 2])),.sl 1 (yh 3),.sl 2 (.o (.c (.p 0 0))),.sl 5 (yh 4),.sl 9 (.o (.g [.h 0,.h 1,.h 2])),.sl 10 (yh 3),.sl 11 (yh 4),.sl 12 (yh 4),.sl 13 (yh 5),.sl 15 (.o (.c (.p 0 2))),.sl 16 (yh 2),.sl 17 (yh 6),.bx 0 31 [.h 0,.h 1,.h 2]]⟩
theorem zcr {w0:World} (e:Xp) (a:Int) (N:Nat) (v1:Int) (v2:Bool) (v4:Int) (IH:z8 w0 N) (h3:v2=false) (i:Int) (v501:Bool) (n503:Nat) (x504:Xp) (v507:Int) (v509:Bool) (v511:Int) (e501:(decide (i<v4))=v501) (e507:(chkX x504 a)=v507) (e509:((v507 != (0:Int)))=v509) (e511:(IntKind.i64.wrap (i+(1:Int)))=v511) (h502:v501=true) (s505:i=(n503:Int)) (s506:e.l[n503]?=some x504) (s508:nodes x504≤N) (h510:v509=false) (i':Int) (q0:(v511)=i') (R:Frm) (hR:R.pm=⟨ntOf Tryd.prog 32,[],[]⟩):Goes (KN w0) Tryd.prog R (lp Tryd.prog 32 0) (FL [pI e.op,pI e.n,pLs cE e.l,pI a,pI v1,pB v2,pI v4,pI i] []) zE .n (FL [pI e.op,pI e.n,pLs cE e.l,pI a,pI v1,pB v2,pI v4,pI i'] []) zE:=
 goes (x:=.n) (y:=.n) (Fb:=FL [pI e.op,pI e.n,pLs cE e.l,pI a,pI v1,pB v2,pI v4,pI i,pB v501,pP (cE x504),pI x504.op,pI x504.n,pLs cE x504.l,pI v507,pB v509,pI v511] []) (stb:=zE) (tl:=[.sl 0 (.o (.g [.h 0,.h 1,.h 2])),.sl 1 (yh 3),.sl 2 (.o (.c (.p 0 0))),.sl 5 (yh 4),.sl 9 (.o (.g [.h 0,.h 1,.h 2])),.sl 10 (yh 3),.sl 11 (yh 4),.sl 12 (yh 4),.sl 13 (yh 5),.sl 15 (.o (.c (.p 0 2))),.sl 16 (yh 2),.sl 17 (yh 6),.sl 18 (yh 15),.bx 0 31 [.h 0,.h 1,.h 2]]) (C:=((10005,.fb 5 false) ::
  (1005000,.bin .lss 3 (yh 7) (yh 6) (yh 8)) ::
  (10008,.fb 8 true) ::
  (1005001,.op (.ia 28) [yh 2,yh 7] [] (yh 9)) ::
  (1005002,.op (.ld 31) [yh 9] [] (.o (.g [.h 10,.h 11,.h 12]))) ::
  (1005007,.call ⟨32,[.o (.g [.h 10,.h 11,.h 12]),yh 3],[],yh 13,[]⟩) ::
  (1005010,.bin .neq 33 (yh 13) (LF (.k (.int .i64 0))) (yh 14)) ::
  (10014,.fb 14 false) ::
  (1005011,.bin .add 3 (yh 7) (LF (.k (.int .i64 1))) (yh 15)) ::
  []:List (Nat×Ent))) (H:=.no) 5000 (zipA.imp ⟨z_g ⟨yy,yy,yy,trivial⟩,z_c yy,z_c yy,z_c yy,z_g ⟨yy,yy,yy,trivial⟩,z_c yy,z_c yy,z_c yy,z_c yy,z_c yy,z_c yy,z_c yy,z_c yy,z_b ⟨yy,yy,yy,trivial⟩,trivial⟩) (zg ⟨za,za,(ze (zf rfl)),za,za,za,za,za,za,(zo ((zf rfl) _)),za,za,(ze (zf rfl)),za,za,za,trivial⟩) ⟨e_fbv h3,
  e_bin (zb rfl) (zb rfl) (zb rfl) (r_cmp (congrArg some e501)),
  e_fbv h502,
  e_iaL (E:=31) (z:=3) zm (by kernel_rfl) (by kernel_rfl) (zc rfl) (zb rfl) s505 s506 (zc rfl),
  e_ldG (by kernel_rfl) (by kernel_rfl) (zc rfl) (cE_eq _).symm rfl (zm _),
  zh (IH x504 a v507 e507 s508),
  e_bin (zb rfl) zd (zb rfl) (r_cmp (congrArg some e509)),
  e_fbv h510,
  e_bin (zb rfl) zd (zb rfl) (r_ar (congrArg some e511)),
  trivial⟩ mixed hR trivial (fun _ _ _ hs=>by cases hs) (by kernel_rfl:zD (KN w0) Tryd.prog _ .no ⟨ntOf Tryd.prog 32,[],[]⟩ (lp Tryd.prog 32 0) 5000 zE .n [.sl 0 (.o (.g [.h 0,.h 1,.h 2])),.sl 1 (yh 3),.sl 2 (.o (.c (.p 0 0))),.sl 5 (yh 4),.sl 9 (.o (.g [.h 0,.h 1,.h 2])),.sl 10 (yh 3),.sl 11 (yh 4),.sl 12 (yh 4),.sl 13 (yh 5),.sl 15 (.o (.c (.p 0 2))),.sl 16 (yh 2),.sl 17 (yh 6),.sl 18 (yh 15),.bx 0 31 [.h 0,.h 1,.h 2]]=true) rfl (zipA.imp ⟨z_g ⟨yy,yy,yy,trivial⟩,z_c yy,z_c yy,z_c yy,z_g ⟨yy,yy,yy,trivial⟩,z_c yy,z_c yy,z_c yy,z_c yy,z_c yy,z_c yy,z_c yy,z_c (fun β v W h=>(zc rfl β v W).2 (by rw [← q0];exact h)),z_b ⟨yy,yy,yy,trivial⟩,trivial⟩)
theorem ze3 {w0:World} (e:Xp) (a:Int) (N:Nat) (v1:Int) (v2:Bool) (v4:Int) (IH:z8 w0 N) (h3:v2=false) (i:Int) (v501:Bool) (e501:(decide (i<v4))=v501) (h502:v501=false) (F:Fact) (u0:F.c 0=pI e.op) (u1:F.c 1=pI e.n) (u2:F.c 2=pLs cE e.l) (u3:F.c 3=pI a) (u4:F.c 4=pI v1) (u5:F.c 5=pB v2) (u6:F.c 6=pI v4) (R:Frm) (hR:R.pm=⟨ntOf Tryd.prog 32,[],[]⟩):Goes (KN w0) Tryd.prog R (lp Tryd.prog 32 0) (FL [pI e.op,pI e.n,pLs cE e.l,pI a,pI v1,pB v2,pI v4,pI i] []) zE (.x 0) F qQ.out:=
 goes (x:=(.x 0)) (y:=(.x 0)) (Fb:=FL [pI e.op,pI e.n,pLs cE e.l,pI a,pI v1,pB v2,pI v4,pI i,pB v501] []) (stb:=zE) (tl:=[.sl 0 (.o (.g [.h 0,.h 1,.h 2])),.sl 1 (yh 3),.sl 2 (.o (.c (.p 0 0))),.sl 5 (yh 4),.sl 9 (.o (.g [.h 0,.h 1,.h 2])),.sl 10 (yh 3),.sl 11 (yh 4),.sl 12 (yh 4),.sl 13 (yh 5),.sl 15 (.o (.c (.p 0 2))),.sl 16 (yh 2),.sl 17 (yh 6),.bx 0 31 [.h 0,.h 1,.h 2]]) (C:=((10005,.fb 5 false) ::
  (1005000,.bin .lss 3 (yh 7) (yh 6) (yh 8)) ::
  (10008,.fb 8 false) ::
  []:List (Nat×Ent))) (H:=.no) 5000 (zipA.imp ⟨z_g ⟨yy,yy,yy,trivial⟩,z_c yy,z_c yy,z_c yy,z_g ⟨yy,yy,yy,trivial⟩,z_c yy,z_c yy,z_c yy,z_c yy,z_c yy,z_c yy,z_c yy,z_c yy,z_b ⟨yy,yy,yy,trivial⟩,trivial⟩) (zg ⟨za,za,(ze (zf rfl)),za,za,za,za,za,za,trivial⟩) ⟨e_fbv h3,
  e_bin (zb rfl) (zb rfl) (zb rfl) (r_cmp (congrArg some e501)),
  e_fbv h502,
  trivial⟩ mixed hR trivial (fun _ _ _ hs=>by cases hs) (by kernel_rfl:zD (KN w0) Tryd.prog _ .no ⟨ntOf Tryd.prog 32,[],[]⟩ (lp Tryd.prog 32 0) 5000 zE (.x 0) [.sl 0 (.o (.g [.h 0,.h 1,.h 2])),.sl 1 (yh 3),.sl 2 (.o (.c (.p 0 0))),.sl 5 (yh 4),.sl 9 (.o (.g [.h 0,.h 1,.h 2])),.sl 10 (yh 3),.sl 11 (yh 4),.sl 12 (yh 4),.sl 13 (yh 5),.sl 15 (.o (.c (.p 0 2))),.sl 16 (yh 2),.sl 17 (yh 6),.bx 0 31 [.h 0,.h 1,.h 2]]=true) rfl (zipA.imp ⟨z_g ⟨fun β v W h=>(zc u0 β v W).2 h,fun β v W h=>(zc u1 β v W).2 h,fun β v W h=>(zc u2 β v W).2 h,trivial⟩,z_c (fun β v W h=>(zc u3 β v W).2 h),z_c yy,z_c (fun β v W h=>(zc u4 β v W).2 h),z_g ⟨fun β v W h=>(zc u0 β v W).2 h,fun β v W h=>(zc u1 β v W).2 h,fun β v W h=>(zc u2 β v W).2 h,trivial⟩,z_c (fun β v W h=>(zc u3 β v W).2 h),z_c (fun β v W h=>(zc u4 β v W).2 h),z_c (fun β v W h=>(zc u4 β v W).2 h),z_c (fun β v W h=>(zc u5 β v W).2 h),z_c yy,z_c (fun β v W h=>(zc u2 β v W).2 h),z_c (fun β v W h=>(zc u6 β v W).2 h),z_b ⟨fun β v W h=>(zc u0 β v W).2 h,fun β v W h=>(zc u1 β v W).2 h,fun β v W h=>(zc u2 β v W).2 h,trivial⟩,trivial⟩)
def zgp (e:Xp) (a:Int) (N:Nat) (v1:Int) (v2:Bool) (v4:Int) (t:x_check_A_T):Prop:=(∃(v501:Bool),((decide (t.i<v4))=v501)∧(v501=false)∧True)
def zc7 (e:Xp) (a:Int) (N:Nat) (v1:Int) (v2:Bool) (v4:Int) (t t':x_check_A_T):Prop:=(∃(v501:Bool),∃(n503:Nat),∃(x504:Xp),∃(v507:Int),∃(v509:Bool),∃(v511:Int),((decide (t.i<v4))=v501)∧((chkX x504 a)=v507)∧(((v507 != (0:Int)))=v509)∧((IntKind.i64.wrap (t.i+(1:Int)))=v511)∧(v501=true)∧(t.i=(n503:Int))∧(e.l[n503]?=some x504)∧(nodes x504≤N)∧(v509=false)∧((v511)=t'.i)∧True)
theorem zdl {w0:World} (e:Xp) (a:Int) (N:Nat) (v1:Int) (v2:Bool) (v4:Int) (IH:z8 w0 N) (h3:v2=false) {F:Fact} (u0:F.c 0=pI e.op) (u1:F.c 1=pI e.n) (u2:F.c 2=pLs cE e.l) (u3:F.c 3=pI a) (u4:F.c 4=pI v1) (u5:F.c 5=pB v2) (u6:F.c 6=pI v4) (R:Frm) (hR:R.pm=⟨ntOf Tryd.prog 32,[],[]⟩) (J:x_check_A_T→Prop) (m:x_check_A_T→Nat) (hJ:J { i:=(0:Int) }) (rounds:∀t,J t→zgp e a N v1 v2 v4 t ∨∃t',zc7 e a N v1 v2 v4 t t'∧m t'<m t∧J t'):zl (KN w0) Tryd.prog F R qQ (lp Tryd.prog 32 0):=by
 refine zB (T:=x_check_A_T) (fun t=>FL [pI e.op,pI e.n,pLs cE e.l,pI a,pI v1,pB v2,pI v4,pI t.i] []) J m { i:=(0:Int) } zE hJ (zipA.imp ⟨z_g ⟨fun β v W h=>(zc u0 β v W).1 h,fun β v W h=>(zc u1 β v W).1 h,fun β v W h=>(zc u2 β v W).1 h,trivial⟩,z_c (fun β v W h=>(zc u3 β v W).1 h),z_c yy,z_c (fun β v W h=>(zc u4 β v W).1 h),z_g ⟨fun β v W h=>(zc u0 β v W).1 h,fun β v W h=>(zc u1 β v W).1 h,fun β v W h=>(zc u2 β v W).1 h,trivial⟩,z_c (fun β v W h=>(zc u3 β v W).1 h),z_c (fun β v W h=>(zc u4 β v W).1 h),z_c (fun β v W h=>(zc u4 β v W).1 h),z_c (fun β v W h=>(zc u5 β v W).1 h),z_c yy,z_c (fun β v W h=>(zc u2 β v W).1 h),z_c (fun β v W h=>(zc u6 β v W).1 h),z_c yy,z_b ⟨fun β v W h=>(zc u0 β v W).1 h,fun β v W h=>(zc u1 β v W).1 h,fun β v W h=>(zc u2 β v W).1 h,trivial⟩,trivial⟩) rfl fun t ht=>?_
 rcases rounds t ht with hz_ | ⟨t',hz_,hm_,hj_⟩
 ·refine .inl ?_
  rcases hz_ with ⟨v501,e501,h502,_⟩
  ·exact ze3  e a N v1 v2 v4 IH h3 t.i v501 e501 h502  F u0 u1 u2 u3 u4 u5 u6  R hR
 ·refine .inr ⟨t',hm_,hj_,?_⟩
  rcases hz_ with ⟨v501,n503,x504,v507,v509,v511,e501,e507,e509,e511,h502,s505,s506,s508,h510,q0,_⟩
  ·exact zcr  e a N v1 v2 v4 IH h3 t.i v501 n503 x504 v507 v509 v511 e501 e507 e509 e511 h502 s505 s506 s508 h510 t'.i q0 R hR
theorem ze2 {w0:World} (e:Xp) (a:Int) (N:Nat) (v1:Int) (v2:Bool) (v4:Int) (IH:z8 w0 N) (h3:v2=false) {F:Fact} (u0:F.c 0=pI e.op) (u1:F.c 1=pI e.n) (u2:F.c 2=pLs cE e.l) (u3:F.c 3=pI a) (u4:F.c 4=pI v1) (u5:F.c 5=pB v2) (u6:F.c 6=pI v4) (R:Frm) (hR:R.pm=⟨ntOf Tryd.prog 32,[],[]⟩) (hb:e.l.length<9223372036854775808) (hN:nodes e≤N+1) (hlen:(e.l.length:Int)=v4) (hO:chkL e.l a=0):zl (KN w0) Tryd.prog F R qQ (lp Tryd.prog 32 0):=by
 refine zdl  e a N v1 v2 v4 IH h3  u0 u1 u2 u3 u4 u5 u6 R hR (fun ⟨i⟩=>∃k:Nat,i=(k:Int)∧k≤e.l.length∧chkL (e.l.drop k) a=0) (fun ⟨i⟩=>((e.l.length:Int) - i).toNat) ⟨0,rfl,Nat.zero_le _,by rw [List.drop_zero];exact hO⟩ fun t hJ=>?_
 obtain ⟨i⟩:=t
 dsimp only at hJ
 obtain ⟨k,hi,hk,hs⟩:=hJ
 obtain ⟨v501,e501⟩:∃v,(decide (i<v4))=v:=⟨_,rfl⟩
 cases h502:v501 with
 | true =>
  obtain ⟨n503,x504,s505,s506⟩:∃(n503:Nat) (x504:Xp),i=(n503:Int)∧e.l[n503]?=some x504:=by (have dh502:=of_decide_eq_true (e501.trans h502);have hz:=hlen;have hlt:k<e.l.length:=(by omega);exact ⟨k,_,hi,List.getElem?_eq_getElem hlt⟩)
  obtain ⟨v507,e507⟩:∃v,(chkX x504 a)=v:=⟨_,rfl⟩
  have s508:nodes x504≤N:=by exact zv hN s506
  obtain ⟨v509,e509⟩:∃v,((v507 != (0:Int)))=v:=⟨_,rfl⟩
  cases h510:v509 with
  | true =>
   exfalso
   have dh502:=of_decide_eq_true (e501.trans h502);have dh510:=bne_iff_ne.1 (e509.trans h510);have hz:=hlen;have hkn:n503=k:=(by omega);subst hkn;have hd:=zaS s506 a;rw [e507] at hd;rw [if_pos dh510,hs] at hd;exact dh510 hd.symm
  | false =>
   obtain ⟨v511,e511⟩:∃v,(IntKind.i64.wrap (i+(1:Int)))=v:=⟨_,rfl⟩
   refine .inr ⟨⟨v511⟩,⟨v501,n503,x504,v507,v509,v511,e501,e507,e509,e511,h502,s505,s506,s508,h510,rfl,trivial⟩,?_,?_⟩
   all_goals (have dh502:=of_decide_eq_true (e501.trans h502);have dh510:=bne_eq_false_iff_eq.1 (e509.trans h510);have hz:=hlen;have hkn:n503=k:=(by omega);subst hkn;have hd:=zaS s506 a;rw [e507] at hd;rw [if_neg (by simpa using dh510)] at hd;have hlt:n503<e.l.length:=(List.getElem?_eq_some_iff.1 s506).1;have x3:v511=((n503+1:Nat):Int):=(by rw [← e511,hi,wri (by omega)];omega))
   ·show ((e.l.length:Int) - v511).toNat<((e.l.length:Int) - i).toNat
    omega
   ·exact ⟨n503+1,x3,by omega,by rw [← hd];exact hs⟩
 | false =>
  refine .inl (⟨v501,e501,h502,trivial⟩)
def qR:LoopS:=⟨5,[.sl 0 (.o (.g [.h 0,.h 1,.h 2])),.sl 1 (yh 3),.sl 2 (.o (.c (.p 0 0))),.sl 5 (yh 4),.sl 9 (.o (.g [.h 0,.h 1,.h 2])),.sl 10 (yh 3),.sl 11 (yh 4),.sl 12 (yh 4),.sl 13 (yh 5),.sl 15 (.o (.c (.p 0 2))),.sl 16 (yh 2),.sl 17 (yh 6),.sl 18 (.o (.c (.k (.int .i64 0)))),.bx 0 31 [.h 0,.h 1,.h 2]],.r,[.sl 0 (.o (.g [.h 0,.h 1,.h 2])),.sl 1 (yh 3),.sl 2 (.o (.c (.p 0 0))),.sl 4 (yh 7),.sl 5 (yh 4),.sl 9 (.o (.g [.h 0,.h 1,.h 2])),.sl 10 (yh 3),.sl 11 (yh 4),.sl 12 (yh 4),.sl 13 (yh 5),.sl 15 (.o (.c (.p 0 2))),.sl 16 (yh 2),.sl 17 (yh 6),.bx 0 31 [.h 0,.h 1,.h 2]]⟩
theorem ze5 {w0:World} (e:Xp) (a:Int) (N:Nat) (v1:Int) (v2:Bool) (v4:Int) (IH:z8 w0 N) (h3:v2=false) (i:Int) (v501:Bool) (n503:Nat) (x504:Xp) (v507:Int) (v509:Bool) (e501:(decide (i<v4))=v501) (e507:(chkX x504 a)=v507) (e509:((v507 != (0:Int)))=v509) (h502:v501=true) (s505:i=(n503:Int)) (s506:e.l[n503]?=some x504) (s508:nodes x504≤N) (h510:v509=true) (o:Int) (F:Fact) (u0:F.c 0=pI e.op) (u1:F.c 1=pI e.n) (u2:F.c 2=pLs cE e.l) (u3:F.c 3=pI a) (u4:F.c 4=pI v1) (u5:F.c 5=pB v2) (u6:F.c 6=pI v4) (u7:F.c 7=pI o) (q0:(v507)=o) (R:Frm) (hR:R.pm=⟨ntOf Tryd.prog 32,[],[]⟩):Goes (KN w0) Tryd.prog R (lp Tryd.prog 32 0) (FL [pI e.op,pI e.n,pLs cE e.l,pI a,pI v1,pB v2,pI v4,pI i] []) zE .r F qR.out:=
 goes (x:=.r) (y:=.r) (Fb:=FL [pI e.op,pI e.n,pLs cE e.l,pI a,pI v1,pB v2,pI v4,pI i,pB v501,pP (cE x504),pI x504.op,pI x504.n,pLs cE x504.l,pI v507,pB v509] []) (stb:=zE) (tl:=[.sl 0 (.o (.g [.h 0,.h 1,.h 2])),.sl 1 (yh 3),.sl 2 (.o (.c (.p 0 0))),.sl 4 (yh 13),.sl 5 (yh 4),.sl 9 (.o (.g [.h 0,.h 1,.h 2])),.sl 10 (yh 3),.sl 11 (yh 4),.sl 12 (yh 4),.sl 13 (yh 5),.sl 15 (.o (.c (.p 0 2))),.sl 16 (yh 2),.sl 17 (yh 6),.bx 0 31 [.h 0,.h 1,.h 2]]) (C:=((10005,.fb 5 false) ::
  (1005000,.bin .lss 3 (yh 7) (yh 6) (yh 8)) ::
  (10008,.fb 8 true) ::
  (1005001,.op (.ia 28) [yh 2,yh 7] [] (yh 9)) ::
  (1005002,.op (.ld 31) [yh 9] [] (.o (.g [.h 10,.h 11,.h 12]))) ::
  (1005007,.call ⟨32,[.o (.g [.h 10,.h 11,.h 12]),yh 3],[],yh 13,[]⟩) ::
  (1005010,.bin .neq 33 (yh 13) (LF (.k (.int .i64 0))) (yh 14)) ::
  (10014,.fb 14 true) ::
  []:List (Nat×Ent))) (H:=.no) 5000 (zipA.imp ⟨z_g ⟨yy,yy,yy,trivial⟩,z_c yy,z_c yy,z_c yy,z_g ⟨yy,yy,yy,trivial⟩,z_c yy,z_c yy,z_c yy,z_c yy,z_c yy,z_c yy,z_c yy,z_c yy,z_b ⟨yy,yy,yy,trivial⟩,trivial⟩) (zg ⟨za,za,(ze (zf rfl)),za,za,za,za,za,za,(zo ((zf rfl) _)),za,za,(ze (zf rfl)),za,za,trivial⟩) ⟨e_fbv h3,
  e_bin (zb rfl) (zb rfl) (zb rfl) (r_cmp (congrArg some e501)),
  e_fbv h502,
  e_iaL (E:=31) (z:=3) zm (by kernel_rfl) (by kernel_rfl) (zc rfl) (zb rfl) s505 s506 (zc rfl),
  e_ldG (by kernel_rfl) (by kernel_rfl) (zc rfl) (cE_eq _).symm rfl (zm _),
  zh (IH x504 a v507 e507 s508),
  e_bin (zb rfl) zd (zb rfl) (r_cmp (congrArg some e509)),
  e_fbv h510,
  trivial⟩ mixed hR trivial (fun _ _ _ hs=>by cases hs) (by kernel_rfl:zD (KN w0) Tryd.prog _ .no ⟨ntOf Tryd.prog 32,[],[]⟩ (lp Tryd.prog 32 0) 5000 zE .r [.sl 0 (.o (.g [.h 0,.h 1,.h 2])),.sl 1 (yh 3),.sl 2 (.o (.c (.p 0 0))),.sl 4 (yh 13),.sl 5 (yh 4),.sl 9 (.o (.g [.h 0,.h 1,.h 2])),.sl 10 (yh 3),.sl 11 (yh 4),.sl 12 (yh 4),.sl 13 (yh 5),.sl 15 (.o (.c (.p 0 2))),.sl 16 (yh 2),.sl 17 (yh 6),.bx 0 31 [.h 0,.h 1,.h 2]]=true) rfl (zipA.imp ⟨z_g ⟨fun β v W h=>(zc u0 β v W).2 h,fun β v W h=>(zc u1 β v W).2 h,fun β v W h=>(zc u2 β v W).2 h,trivial⟩,z_c (fun β v W h=>(zc u3 β v W).2 h),z_c yy,z_c (fun β v W h=>(zc u7 β v W).2 (by rw [← q0];exact h)),z_c (fun β v W h=>(zc u4 β v W).2 h),z_g ⟨fun β v W h=>(zc u0 β v W).2 h,fun β v W h=>(zc u1 β v W).2 h,fun β v W h=>(zc u2 β v W).2 h,trivial⟩,z_c (fun β v W h=>(zc u3 β v W).2 h),z_c (fun β v W h=>(zc u4 β v W).2 h),z_c (fun β v W h=>(zc u4 β v W).2 h),z_c (fun β v W h=>(zc u5 β v W).2 h),z_c yy,z_c (fun β v W h=>(zc u2 β v W).2 h),z_c (fun β v W h=>(zc u6 β v W).2 h),z_b ⟨fun β v W h=>(zc u0 β v W).2 h,fun β v W h=>(zc u1 β v W).2 h,fun β v W h=>(zc u2 β v W).2 h,trivial⟩,trivial⟩)
def zgq (e:Xp) (a:Int) (N:Nat) (v1:Int) (v2:Bool) (v4:Int) (t:x_check_A_T) (o:Int):Prop:=(∃(v501:Bool),∃(n503:Nat),∃(x504:Xp),∃(v507:Int),∃(v509:Bool),((decide (t.i<v4))=v501)∧((chkX x504 a)=v507)∧(((v507 != (0:Int)))=v509)∧(v501=true)∧(t.i=(n503:Int))∧(e.l[n503]?=some x504)∧(nodes x504≤N)∧(v509=true)∧((v507)=o)∧True)
theorem zdm {w0:World} (e:Xp) (a:Int) (N:Nat) (v1:Int) (v2:Bool) (v4:Int) (IH:z8 w0 N) (h3:v2=false) (o:Int) {F:Fact} (u0:F.c 0=pI e.op) (u1:F.c 1=pI e.n) (u2:F.c 2=pLs cE e.l) (u3:F.c 3=pI a) (u4:F.c 4=pI v1) (u5:F.c 5=pB v2) (u6:F.c 6=pI v4) (u7:F.c 7=pI o) (R:Frm) (hR:R.pm=⟨ntOf Tryd.prog 32,[],[]⟩) (J:x_check_A_T→Prop) (m:x_check_A_T→Nat) (hJ:J { i:=(0:Int) }) (rounds:∀t,J t→zgq e a N v1 v2 v4 t o∨∃t',zc7 e a N v1 v2 v4 t t'∧m t'<m t∧J t'):zl (KN w0) Tryd.prog F R qR (lp Tryd.prog 32 0):=by
 refine zB (T:=x_check_A_T) (fun t=>FL [pI e.op,pI e.n,pLs cE e.l,pI a,pI v1,pB v2,pI v4,pI t.i] []) J m { i:=(0:Int) } zE hJ (zipA.imp ⟨z_g ⟨fun β v W h=>(zc u0 β v W).1 h,fun β v W h=>(zc u1 β v W).1 h,fun β v W h=>(zc u2 β v W).1 h,trivial⟩,z_c (fun β v W h=>(zc u3 β v W).1 h),z_c yy,z_c (fun β v W h=>(zc u4 β v W).1 h),z_g ⟨fun β v W h=>(zc u0 β v W).1 h,fun β v W h=>(zc u1 β v W).1 h,fun β v W h=>(zc u2 β v W).1 h,trivial⟩,z_c (fun β v W h=>(zc u3 β v W).1 h),z_c (fun β v W h=>(zc u4 β v W).1 h),z_c (fun β v W h=>(zc u4 β v W).1 h),z_c (fun β v W h=>(zc u5 β v W).1 h),z_c yy,z_c (fun β v W h=>(zc u2 β v W).1 h),z_c (fun β v W h=>(zc u6 β v W).1 h),z_c yy,z_b ⟨fun β v W h=>(zc u0 β v W).1 h,fun β v W h=>(zc u1 β v W).1 h,fun β v W h=>(zc u2 β v W).1 h,trivial⟩,trivial⟩) rfl fun t ht=>?_
 rcases rounds t ht with hz_ | ⟨t',hz_,hm_,hj_⟩
 ·refine .inl ?_
  rcases hz_ with ⟨v501,n503,x504,v507,v509,e501,e507,e509,h502,s505,s506,s508,h510,q0,_⟩
  ·exact ze5  e a N v1 v2 v4 IH h3 t.i v501 n503 x504 v507 v509 e501 e507 e509 h502 s505 s506 s508 h510 o F u0 u1 u2 u3 u4 u5 u6 u7 q0 R hR
 ·refine .inr ⟨t',hm_,hj_,?_⟩
  rcases hz_ with ⟨v501,n503,x504,v507,v509,v511,e501,e507,e509,e511,h502,s505,s506,s508,h510,q0,_⟩
  ·exact zcr  e a N v1 v2 v4 IH h3 t.i v501 n503 x504 v507 v509 v511 e501 e507 e509 e511 h502 s505 s506 s508 h510 t'.i q0 R hR
theorem ze4 {w0:World} (e:Xp) (a:Int) (N:Nat) (v1:Int) (v2:Bool) (v4:Int) (IH:z8 w0 N) (h3:v2=false) (o:Int) {F:Fact} (u0:F.c 0=pI e.op) (u1:F.c 1=pI e.n) (u2:F.c 2=pLs cE e.l) (u3:F.c 3=pI a) (u4:F.c 4=pI v1) (u5:F.c 5=pB v2) (u6:F.c 6=pI v4) (u7:F.c 7=pI o) (R:Frm) (hR:R.pm=⟨ntOf Tryd.prog 32,[],[]⟩) (hb:e.l.length<9223372036854775808) (hN:nodes e≤N+1) (hlen:(e.l.length:Int)=v4) (hne:o≠0) (hO:chkL e.l a=o):zl (KN w0) Tryd.prog F R qR (lp Tryd.prog 32 0):=by
 refine zdm  e a N v1 v2 v4 IH h3 o u0 u1 u2 u3 u4 u5 u6 u7 R hR (fun ⟨i⟩=>∃k:Nat,i=(k:Int)∧k≤e.l.length∧chkL (e.l.drop k) a=o) (fun ⟨i⟩=>((e.l.length:Int) - i).toNat) ⟨0,rfl,Nat.zero_le _,by rw [List.drop_zero];exact hO⟩ fun t hJ=>?_
 obtain ⟨i⟩:=t
 dsimp only at hJ
 obtain ⟨k,hi,hk,hs⟩:=hJ
 obtain ⟨v501,e501⟩:∃v,(decide (i<v4))=v:=⟨_,rfl⟩
 cases h502:v501 with
 | true =>
  obtain ⟨n503,x504,s505,s506⟩:∃(n503:Nat) (x504:Xp),i=(n503:Int)∧e.l[n503]?=some x504:=by (have dh502:=of_decide_eq_true (e501.trans h502);have hz:=hlen;have hlt:k<e.l.length:=(by omega);exact ⟨k,_,hi,List.getElem?_eq_getElem hlt⟩)
  obtain ⟨v507,e507⟩:∃v,(chkX x504 a)=v:=⟨_,rfl⟩
  have s508:nodes x504≤N:=by exact zv hN s506
  obtain ⟨v509,e509⟩:∃v,((v507 != (0:Int)))=v:=⟨_,rfl⟩
  cases h510:v509 with
  | true =>
   refine .inl (⟨v501,n503,x504,v507,v509,e501,e507,e509,h502,s505,s506,s508,h510,?_,trivial⟩)
   have dh502:=of_decide_eq_true (e501.trans h502);have dh510:=bne_iff_ne.1 (e509.trans h510);have hz:=hlen;have hkn:n503=k:=(by omega);subst hkn;have hd:=zaS s506 a;rw [e507] at hd;rw [if_pos dh510,hs] at hd;exact hd.symm
  | false =>
   obtain ⟨v511,e511⟩:∃v,(IntKind.i64.wrap (i+(1:Int)))=v:=⟨_,rfl⟩
   refine .inr ⟨⟨v511⟩,⟨v501,n503,x504,v507,v509,v511,e501,e507,e509,e511,h502,s505,s506,s508,h510,rfl,trivial⟩,?_,?_⟩
   all_goals (have dh502:=of_decide_eq_true (e501.trans h502);have dh510:=bne_eq_false_iff_eq.1 (e509.trans h510);have hz:=hlen;have hkn:n503=k:=(by omega);subst hkn;have hd:=zaS s506 a;rw [e507] at hd;rw [if_neg (by simpa using dh510)] at hd;have hlt:n503<e.l.length:=(List.getElem?_eq_some_iff.1 s506).1;have x3:v511=((n503+1:Nat):Int):=(by rw [← e511,hi,wri (by omega)];omega))
   ·show ((e.l.length:Int) - v511).toNat<((e.l.length:Int) - i).toNat
    omega
   ·exact ⟨n503+1,x3,by omega,by rw [← hd];exact hs⟩
 | false =>
  exfalso
  have dh502:=of_decide_eq_false (e501.trans h502);have hz:=hlen;have hkl:k=e.l.length:=(by omega);rw [hkl,List.drop_length,chkL] at hs;exact hne hs.symm
theorem zhX {w0:World} (e:Xp) (a:Int) (N:Nat) (IH:z8 w0 N) (v1:Int) (v2:Bool) (e1:(zp e.op e.n e.l.length a)=v1) (e2:((v1 != (0:Int)))=v2) (h3:v2=true):Fun (KN w0) Tryd.prog 32 [.o (.g [pI e.op,pI e.n,pLs cE e.l]),.o (.c (pI a))] (.o (.c (pI v1))):=
 zi (zk (F:=FL [pI e.op,pI e.n,pLs cE e.l,pI a,pI v1,pB v2] []) (C:=[(1000004,.call ⟨57,[.o (.g [.h 0,.h 1,.h 2]),yh 3],[],yh 4,[]⟩),
  (1000007,.bin .neq 33 (yh 4) (LF (.k (.int .i64 0))) (yh 5)),
  (10005,.fb 5 true)]) (k:=⟨32,[.o (.g [.h 0,.h 1,.h 2]),yh 3],[],yh 4,[]⟩) 0 (zg ⟨za,za,(ze (zf rfl)),za,za,za,trivial⟩) ⟨zh (zew e a v1 e1),
  e_bin (zb rfl) zd (zb rfl) (r_cmp (congrArg some e2)),
  e_fbv h3,
  trivial⟩ mixed (by kernel_rfl))
theorem zhY {w0:World} (e:Xp) (a:Int) (N:Nat) (IH:z8 w0 N) (v1:Int) (v2:Bool) (v4:Int) (o:Int) (e1:(zp e.op e.n e.l.length a)=v1) (e2:((v1 != (0:Int)))=v2) (e4:((e.l.length:Int))=v4) (h3:v2=false) (L_x_check_B:∀R:Frm,R.pm=⟨ntOf Tryd.prog 32,[],[]⟩→zl (KN w0) Tryd.prog (FL [pI e.op,pI e.n,pLs cE e.l,pI a,pI v1,pB v2,pI v4,pI o] []) R qR (lp Tryd.prog 32 0)):Fun (KN w0) Tryd.prog 32 [.o (.g [pI e.op,pI e.n,pLs cE e.l]),.o (.c (pI a))] (.o (.c (pI o))):=
 zi (qe (F:=FL [pI e.op,pI e.n,pLs cE e.l,pI a,pI v1,pB v2,pI v4,pI o] []) (C:=[(1000004,.call ⟨57,[.o (.g [.h 0,.h 1,.h 2]),yh 3],[],yh 4,[]⟩),
  (1000007,.bin .neq 33 (yh 4) (LF (.k (.int .i64 0))) (yh 5)),
  (10005,.fb 5 false),
  (1000010,.op (.len [28] 3) [yh 2] [] (yh 6))]) (k:=⟨32,[.o (.g [.h 0,.h 1,.h 2]),yh 3],[],yh 7,[]⟩) ⟨[qR],[],0⟩ [] 0 (zg ⟨za,za,(ze (zf rfl)),za,za,za,za,za,trivial⟩) ⟨zh (zew e a v1 e1),
  e_bin (zb rfl) zd (zb rfl) (r_cmp (congrArg some e2)),
  e_fbv h3,
  zn (E:=31) (by kernel_rfl) (zc rfl) (zb (by rw [← e4];rfl)),
  trivial⟩ mixed trivial (fun R hR p hp s hs=>by
 have hl:zH (qz Tryd.prog 32)=[(5,lp Tryd.prog 32 0)]:=by kernel_rfl
 rw [hl] at hp
 simp only [List.mem_cons,List.not_mem_nil,or_false] at hp
 rcases hp with rfl
 ·have e:s=qR:=(Option.some.inj hs).symm
  subst e;exact L_x_check_B R hR) (by kernel_rfl))
theorem zhZ {w0:World} (e:Xp) (a:Int) (N:Nat) (IH:z8 w0 N) (v1:Int) (v2:Bool) (v4:Int) (e1:(zp e.op e.n e.l.length a)=v1) (e2:((v1 != (0:Int)))=v2) (e4:((e.l.length:Int))=v4) (h3:v2=false) (L_x_check_A:∀R:Frm,R.pm=⟨ntOf Tryd.prog 32,[],[]⟩→zl (KN w0) Tryd.prog (FL [pI e.op,pI e.n,pLs cE e.l,pI a,pI v1,pB v2,pI v4] []) R qQ (lp Tryd.prog 32 0)):Fun (KN w0) Tryd.prog 32 [.o (.g [pI e.op,pI e.n,pLs cE e.l]),.o (.c (pI a))] (.o (.c (pV (.int .i64 0)))):=
 zi (qe (F:=FL [pI e.op,pI e.n,pLs cE e.l,pI a,pI v1,pB v2,pI v4] []) (C:=[(1000004,.call ⟨57,[.o (.g [.h 0,.h 1,.h 2]),yh 3],[],yh 4,[]⟩),
  (1000007,.bin .neq 33 (yh 4) (LF (.k (.int .i64 0))) (yh 5)),
  (10005,.fb 5 false),
  (1000010,.op (.len [28] 3) [yh 2] [] (yh 6))]) (k:=⟨32,[.o (.g [.h 0,.h 1,.h 2]),yh 3],[],.o (.c (.k (.int .i64 0))),[]⟩) ⟨[qQ],[],0⟩ [] 0 (zg ⟨za,za,(ze (zf rfl)),za,za,za,za,trivial⟩) ⟨zh (zew e a v1 e1),
  e_bin (zb rfl) zd (zb rfl) (r_cmp (congrArg some e2)),
  e_fbv h3,
  zn (E:=31) (by kernel_rfl) (zc rfl) (zb (by rw [← e4];rfl)),
  trivial⟩ mixed trivial (fun R hR p hp s hs=>by
 have hl:zH (qz Tryd.prog 32)=[(5,lp Tryd.prog 32 0)]:=by kernel_rfl
 rw [hl] at hp
 simp only [List.mem_cons,List.not_mem_nil,or_false] at hp
 rcases hp with rfl
 ·have e:s=qQ:=(Option.some.inj hs).symm
  subst e;exact L_x_check_A R hR) (by kernel_rfl))
theorem zkp {w0:World} {N:Nat} (IH:z8 w0 N) (e:Xp) (a:Int) (r:Int) (hr:chkX e a=r) (hN:nodes e≤N+1) (hN1:N+1≤1000000):Fun (KN w0) Tryd.prog 32 [.o (.g [pI e.op,pI e.n,pLs cE e.l]),.o (.c (pI a))] (.o (.c (pI r))):=by
 obtain ⟨v1,e1⟩:∃v,(zp e.op e.n e.l.length a)=v:=⟨_,rfl⟩
 obtain ⟨v2,e2⟩:∃v,((v1 != (0:Int)))=v:=⟨_,rfl⟩
 cases h3:v2 with
 | true =>
  refine Fun.imp (zhX e a N IH v1 v2 e1 e2 h3) (fun _ _ _ h=>h) (fun v W D h=>?_)
  have r0:r=v1:=by
   rw [← hr,zdY,e1,if_pos (bne_iff_ne.1 (e2.trans h3))]
  rw [r0];exact h
 | false =>
  obtain ⟨v4,e4⟩:∃v,((e.l.length:Int))=v:=⟨_,rfl⟩
  by_cases c5:chkL e.l a=0
  ·
   refine Fun.imp (zhZ e a N IH v1 v2 v4 e1 e2 e4 h3 (fun R hR=>ze2 e a N v1 v2 v4 IH  h3  rfl rfl rfl rfl rfl rfl rfl R hR (by have:=qa e;omega) hN e4 c5)) (fun _ _ _ h=>h) (fun v W D h=>?_)
   have r0:r=(0:Int):=by
    rw [← hr,zdY,e1,if_neg (by simpa using (bne_eq_false_iff_eq.1 (e2.trans h3))),c5]
   rw [r0];exact h
  ·
   obtain ⟨o,hO_x_check_B⟩:∃(o:Int),chkL e.l a=o:=⟨_,rfl⟩
   refine Fun.imp (zhY e a N IH v1 v2 v4 o e1 e2 e4 h3 (fun R hR=>ze4 e a N v1 v2 v4 IH  h3 o rfl rfl rfl rfl rfl rfl rfl rfl R hR (by have:=qa e;omega) hN e4 (by rw [← hO_x_check_B];exact c5) hO_x_check_B)) (fun _ _ _ h=>h) (fun v W D h=>?_)
   have r0:r=o:=by
    rw [← hr,zdY,e1,if_neg (by simpa using (bne_eq_false_iff_eq.1 (e2.trans h3))),hO_x_check_B]
   rw [r0];exact h
theorem zc8 {w0:World}:∀N:Nat,N≤1000000→z8 w0 N
 | 0,_=>fun x a v _ h=>by have:=qb x;omega
 | N+1,hN=>fun x a v hv h=>zkp (zc8 N (by omega)) x a v hv h hN
theorem znJ {w0:World} (x:Xp) (a v:Int) (hv:chkX x a=v) (hn:nodes x≤1000000):Fun (KN w0) Tryd.prog 32 [.o (.g [pI x.op,pI x.n,pLs cE x.l]),.o (.c (pI a))] (.o (.c (pI v))):=zc8 (nodes x) hn x a v hv (Nat.le_refl _)
structure x_nodes_A_T where
 i:Int
 g:Int
theorem zhR {w0:World} (e:Xp) (a:Int) (v1:Int) (v4:Bool) (e1:(sizeX e (30:Int))=v1) (e4:(decide (v1 > (30:Int)))=v4) (s2:nodes e≤1000000) (s3:0≤(30:Int)∧(30:Int)≤1000) (h5:v4=true):Fun (KN w0) Tryd.prog 11 [.o (.g [pI e.op,pI e.n,pLs cE e.l]),.o (.c (pI a))] (.o (.c (pV (.int .i64 2)))):=
 zi (zk (F:=FL [pI e.op,pI e.n,pLs cE e.l,pI a,pI v1,pB v4] []) (C:=[(1000003,.call ⟨31,[.o (.g [.h 0,.h 1,.h 2]),.o (.c (.k (.int .i64 30)))],[],yh 4,[]⟩),
  (1000004,.bin .gtr 3 (yh 4) (LF (.k (.int .i64 30))) (yh 5)),
  (10005,.fb 5 true)]) (k:=⟨11,[.o (.g [.h 0,.h 1,.h 2]),yh 3],[],.o (.c (.k (.int .i64 2))),[]⟩) 0 (zg ⟨za,za,(ze (zf rfl)),za,za,za,trivial⟩) ⟨zh (zmW e (30:Int) v1 e1 s2 s3),
  e_bin (zb rfl) zd (zb rfl) (r_cmp (congrArg some e4)),
  e_fbv h5,
  trivial⟩ mixed (by kernel_rfl))
theorem zhS {w0:World} (e:Xp) (a:Int) (v1:Int) (v4:Bool) (v6:Int) (e1:(sizeX e (30:Int))=v1) (e4:(decide (v1 > (30:Int)))=v4) (e6:(chkX e a)=v6) (s2:nodes e≤1000000) (s3:0≤(30:Int)∧(30:Int)≤1000) (h5:v4=false) (s7:nodes e≤1000000):Fun (KN w0) Tryd.prog 11 [.o (.g [pI e.op,pI e.n,pLs cE e.l]),.o (.c (pI a))] (.o (.c (pI v6))):=
 zi (zk (F:=FL [pI e.op,pI e.n,pLs cE e.l,pI a,pI v1,pB v4,pI v6] []) (C:=[(1000003,.call ⟨31,[.o (.g [.h 0,.h 1,.h 2]),.o (.c (.k (.int .i64 30)))],[],yh 4,[]⟩),
  (1000004,.bin .gtr 3 (yh 4) (LF (.k (.int .i64 30))) (yh 5)),
  (10005,.fb 5 false),
  (1000007,.call ⟨32,[.o (.g [.h 0,.h 1,.h 2]),yh 3],[],yh 6,[]⟩)]) (k:=⟨11,[.o (.g [.h 0,.h 1,.h 2]),yh 3],[],yh 6,[]⟩) 0 (zg ⟨za,za,(ze (zf rfl)),za,za,za,za,trivial⟩) ⟨zh (zmW e (30:Int) v1 e1 s2 s3),
  e_bin (zb rfl) zd (zb rfl) (r_cmp (congrArg some e4)),
  e_fbv h5,
  zh (znJ e a v6 e6 s7),
  trivial⟩ mixed (by kernel_rfl))
theorem za4 {w0:World} (e:Xp) (a:Int) (r:Int) (hr:zO e a=r) (hn:nodes e≤1000000):Fun (KN w0) Tryd.prog 11 [.o (.g [pI e.op,pI e.n,pLs cE e.l]),.o (.c (pI a))] (.o (.c (pI r))):=by
 obtain ⟨v1,e1⟩:∃v,(sizeX e (30:Int))=v:=⟨_,rfl⟩
 have s2:nodes e≤1000000:=by exact hn
 have s3:0≤(30:Int)∧(30:Int)≤1000:=by omega
 obtain ⟨v4,e4⟩:∃v,(decide (v1 > (30:Int)))=v:=⟨_,rfl⟩
 cases h5:v4 with
 | true =>
  refine Fun.imp (zhR e a v1 v4 e1 e4 s2 s3 h5) (fun _ _ _ h=>h) (fun v W D h=>?_)
  have r0:r=(2:Int):=by
   have dh5:=of_decide_eq_true (e4.trans h5);have hz:=e1;rw [← hr];unfold zO;rw [if_pos (by omega)]
  rw [r0];exact h
 | false =>
  obtain ⟨v6,e6⟩:∃v,(chkX e a)=v:=⟨_,rfl⟩
  have s7:nodes e≤1000000:=by exact hn
  refine Fun.imp (zhS e a v1 v4 v6 e1 e4 e6 s2 s3 h5 s7) (fun _ _ _ h=>h) (fun v W D h=>?_)
  have r0:r=v6:=by
   have dh5:=of_decide_eq_false (e4.trans h5);have hz:=e1;rw [← hr];unfold zO;rw [if_neg (by omega)];simp_all
  rw [r0];exact h
end Go.Proofs.YtdkofaajcpcjkaaDoor
namespace Go.Proofs.YtdkofaajcpcjkaaDoor
open Go.RowKit
mutual
def evR (args:List Int):Xp→Int×Bool
 | .mk o n l=>if o=1 then (n,true) else if o=2 then (args.getD n.toNat 0,valB (args.getD n.toNat 0)) else match evRL args l with
  | [a,b]=>if a.2=true∧b.2=true then (operX o a.1 b.1,valB (operX o a.1 b.1)) else (0,false)
  | _=>(0,false)
def evRL (args:List Int):List Xp→List (Int×Bool)
 | []=>[]
 | x::r=>evR args x::evRL args r
end
theorem zbA {args:List Int} {k:Int}:∀{e:Xp},Vx k e→((evR args e).2=true→evalX args e=some (evR args e).1)∧((evR args e).2=false→evalX args e=none):=by
 intro e h
 induction h with
 | num h=>rw [zcN,evR,if_pos rfl];exact ⟨fun _=>by unfold valO;rw [if_pos h],fun h=>by cases h⟩
 | arg h0 h1 =>
  rw [zcM,evR,if_neg (by decide),if_pos rfl]
  exact ⟨fun h=>by unfold valO;rw [if_pos h],fun h=>by unfold valO;rw [if_neg (by simp at h;simp [h])]⟩
 | @op o x y h0 h1 ha hb iha ihb =>
  rw [zcv args h0,evR,if_neg (by omega),if_neg (by omega),evRL,evRL,evRL]
  cases hx:(evR args x).2 with
  | false=>rw [iha.2 hx];simp [hx]
  | true =>
   cases hy:(evR args y).2 with
   | false=>rw [iha.1 hx,ihb.2 hy];simp [hx,hy]
   | true =>
    rw [iha.1 hx,ihb.1 hy]
    simp only [hx,hy,and_self,if_true]
    exact ⟨fun h=>by unfold valO;rw [if_pos h],fun h=>by unfold valO;rw [if_neg (by simp [h])]⟩
theorem zcq {args:List Int} {k:Int} {e:Xp} (h:Vx k e) (ho:e.op=2):0≤e.n∧e.n<k∧evR args e=(args.getD e.n.toNat 0,valB (args.getD e.n.toNat 0)):=by
 cases h with
 | num h=>cases ho
 | arg h0 h1=>exact ⟨h0,Int.lt_of_lt_of_le h1 (Int.min_le_left ..),by rw [evR,if_neg (by decide),if_pos rfl];rfl⟩
 | op h0 h1 _ _=>simp only [Xp.op] at ho;omega
theorem vx_op {k:Int} {e:Xp} (h:Vx k e) (h1:¬ e.op=1) (h2:¬ e.op=2):∃a b,e=.mk e.op 0 [a,b]∧3≤e.op∧e.op≤7∧Vx k a∧Vx k b:=by
 cases h with
 | num h=>exact absurd rfl h1
 | arg h0 _=>exact absurd rfl h2
 | op h0 h3 ha hb=>exact ⟨_,_,rfl,h0,h3,ha,hb⟩
theorem vx_at {k:Int} {e x:Xp} {n:Nat} (h:Vx k e) (hx:e.l[n]?=some x):Vx k x:=by
 cases h with
 | num h=>simp [Xp.l] at hx
 | arg h0 _=>simp [Xp.l] at hx
 | op h0 h3 ha hb =>
  match n,hx with
  | 0,h=>injection h with h;exact h ▸ ha
  | 1,h=>injection h with h;exact h ▸ hb
  | _+2,h=>simp [Xp.l] at h
theorem q6 {k:Int} {e:Xp} {n m:Nat} (h:Vx k e) (h1:¬ e.op=1) (h2:¬ e.op=2):∃a b,e.l[0]?=some a∧e.l[1]?=some b:=by
 obtain ⟨a,b,he,_⟩:=vx_op h h1 h2
 exact ⟨a,b,by rw [he];rfl,by rw [he];rfl⟩
theorem zbm {l:List Int} {n:Nat} {x i:Int} (hi:i=n) (h:l[n]?=some x):l.getD i.toNat 0=x:=by subst hi;rw [Int.toNat_natCast,List.getD_eq_getElem?_getD,h];rfl
theorem op_in {a b:Int} (o:Int) (ha:valB a=true) (hb:valB b=true):-9223372036854775808≤operX o a b∧operX o a b<9223372036854775808:=by
 have h1:=zbf.1 ha
 have h2:=zbf.1 hb
 have h3:(a*b).natAbs≤1048576*1048576:=by rw [Int.natAbs_mul];exact Nat.mul_le_mul (by omega) (by omega)
 unfold operX
 (repeat' split)<;>omega
end Go.Proofs.YtdkofaajcpcjkaaDoor
