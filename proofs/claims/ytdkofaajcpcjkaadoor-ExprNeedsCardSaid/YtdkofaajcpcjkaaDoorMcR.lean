/-
  Merged: ExN, ExG, ExV, ExW, ExX, ExT.
-/
import Derived.Test.YtdkofaajcpcjkaaDoorMcO
import Derived.Test.YtdkofaajcpcjkaaDoorMcE
import Derived.Lib.ItoaLen
import Derived.Test.YtdkofaajcpcjkaaDoorMcK
import Derived.Test.YtdkofaajcpcjkaaDoorMcP
import Derived.Test.YtdkofaajcpcjkaaDoorMcQ
set_option linter.unusedSimpArgs false
set_option linter.unusedVariables false
set_option maxRecDepth 100000
set_option maxHeartbeats 4000000
namespace Go.Proofs.YtdkofaajcpcjkaaDoor
open Go.RowKit
def textX (e:Xp):List UInt8:=if qh e 4=0 then zO e else []
def textO (e:Xp):Bool:=qh e 4 == 0
theorem ziA {w0:World} (e:Xp) (hL:LibT w0) (v1:Int) (v3:Bool) (e1:(qh e (4:Int))=v1) (e3:((v1 != (0:Int)))=v3) (s2:nodes e≤1000000) (h4:v3=true):Fun (KN w0) Tryd.prog 18 [.o (.g [pI e.op,pI e.n,pLs cE e.l])] (.t [.c (pV (.string ⟨#[]⟩)),.c (pV (.bool false))]):=
 zj (zl (F:=FL [pI e.op,pI e.n,pLs cE e.l,pI v1,pB v3] []) (C:=[(1000004,.call ⟨11,[.o (.g [.h 0,.h 1,.h 2]),.o (.c (.k (.int .i64 4)))],[],.o (.c (.h 3)),[]⟩),
  (1000005,.bin .neq 33 (LF (.h 3)) (LF (.k (.int .i64 0))) (LF (.h 4))),
  (10004,.fb 4 true)]) (k:=⟨18,[.o (.g [.h 0,.h 1,.h 2])],[],.t [.c (.k (.string ⟨#[]⟩)),.c (.k (.bool false))],[]⟩) 0 (zi ⟨zb rfl,zb rfl,(ze (zh rfl)),zb rfl,zb rfl,trivial⟩) ⟨zg (za5 e (4:Int) v1 e1 s2) rfl rfl rfl rfl,
  e_bin (za rfl) zc (za rfl) (r_cmp (congrArg some e3)),
  e_fb (show pV (.bool v3)=_ by rw [h4]),
  trivial⟩ mixed (by kernel_rfl)) rfl rfl rfl rfl
theorem ziB {w0:World} (e:Xp) (hL:LibT w0) (v1:Int) (v3:Bool) (v5:(List UInt8)) (e1:(qh e (4:Int))=v1) (e3:((v1 != (0:Int)))=v3) (e5:(zO e)=v5) (s2:nodes e≤1000000) (h4:v3=false) (s6:Vx 4 e) (s7:nodes e≤1000000):Fun (KN w0) Tryd.prog 18 [.o (.g [pI e.op,pI e.n,pLs cE e.l])] (.t [.c (pS v5),.c (pV (.bool true))]):=
 zj (zl (F:=FL [pI e.op,pI e.n,pLs cE e.l,pI v1,pB v3,pS v5] []) (C:=[(1000004,.call ⟨11,[.o (.g [.h 0,.h 1,.h 2]),.o (.c (.k (.int .i64 4)))],[],.o (.c (.h 3)),[]⟩),
  (1000005,.bin .neq 33 (LF (.h 3)) (LF (.k (.int .i64 0))) (LF (.h 4))),
  (10004,.fb 4 false),
  (1000007,.call ⟨54,[.o (.g [.h 0,.h 1,.h 2])],[],.o (.c (.h 5)),[]⟩)]) (k:=⟨18,[.o (.g [.h 0,.h 1,.h 2])],[],.t [.c (.h 5),.c (.k (.bool true))],[]⟩) 0 (zi ⟨zb rfl,zb rfl,(ze (zh rfl)),zb rfl,zb rfl,zb rfl,trivial⟩) ⟨zg (za5 e (4:Int) v1 e1 s2) rfl rfl rfl rfl,
  e_bin (za rfl) zc (za rfl) (r_cmp (congrArg some e3)),
  e_fb (show pV (.bool v3)=_ by rw [h4]),
  zg (zlm hL e v5 e5 s6 s7) rfl rfl rfl rfl,
  trivial⟩ mixed (by kernel_rfl)) rfl rfl rfl rfl
theorem zkz {w0:World} (hL:LibT w0) (e:Xp) (r:List UInt8) (b:Bool) (hr:textX e=r) (hb:textO e=b) (hn:nodes e≤1000000):Fun (KN w0) Tryd.prog 18 [.o (.g [pI e.op,pI e.n,pLs cE e.l])] (.t [.c (pS r),.c (pB b)]):=by
 obtain ⟨v1,e1⟩:∃v,(qh e (4:Int))=v:=⟨_,rfl⟩
 have s2:nodes e≤1000000:=by exact hn
 obtain ⟨v3,e3⟩:∃v,((v1 != (0:Int)))=v:=⟨_,rfl⟩
 cases h4:v3 with
 | true =>
  refine Fun.imp (ziA e hL v1 v3 e1 e3 s2 h4) (fun _ _ _ h=>h) (fun v W D h=>?_)
  have r0:r=[]:=by
   (have dh4:=bne_iff_ne.1 (e3.trans h4);unfold textX at hr;unfold textO at hb;rw [e1] at hr hb;first | (rw [← hr,if_neg dh4];done) | (rw [← hb];exact beq_eq_false_iff_ne.2 dh4) | (rw [← hr,if_pos dh4];assumption) | (rw [← hb,dh4];rfl))
  have r1:b=false:=by
   (have dh4:=bne_iff_ne.1 (e3.trans h4);unfold textX at hr;unfold textO at hb;rw [e1] at hr hb;first | (rw [← hr,if_neg dh4];done) | (rw [← hb];exact beq_eq_false_iff_ne.2 dh4) | (rw [← hr,if_pos dh4];assumption) | (rw [← hb,dh4];rfl))
  rw [r0,r1];exact h
 | false =>
  obtain ⟨v5,e5⟩:∃v,(zO e)=v:=⟨_,rfl⟩
  have s6:Vx 4 e:=by (have dh4:=bne_eq_false_iff_eq.1 (e3.trans h4);exact (qZ.1 (e1.trans (by assumption))).2)
  have s7:nodes e≤1000000:=by exact hn
  refine Fun.imp (ziB e hL v1 v3 v5 e1 e3 e5 s2 h4 s6 s7) (fun _ _ _ h=>h) (fun v W D h=>?_)
  have r0:r=v5:=by
   (have dh4:=bne_eq_false_iff_eq.1 (e3.trans h4);unfold textX at hr;unfold textO at hb;rw [e1] at hr hb;first | (rw [← hr,if_neg dh4];done) | (rw [← hb];exact beq_eq_false_iff_ne.2 dh4) | (rw [← hr,if_pos dh4];assumption) | (rw [← hb,dh4];rfl))
  have r1:b=true:=by
   (have dh4:=bne_eq_false_iff_eq.1 (e3.trans h4);unfold textX at hr;unfold textO at hb;rw [e1] at hr hb;first | (rw [← hr,if_neg dh4];done) | (rw [← hb];exact beq_eq_false_iff_ne.2 dh4) | (rw [← hr,if_pos dh4];assumption) | (rw [← hb,dh4];rfl))
  rw [r0,r1];exact h
theorem zdi (n:Nat):Lib.itoa (n:Int)=Lib.decDigits n:=by unfold Lib.itoa;rw [if_neg (by omega)];simp
theorem qc {n:Int} (h0:0≤n) (h:n<10):Lib.itoa n=[bI (48+n)]:=by
 obtain ⟨k,rfl⟩:∃k:Nat,n=k:=⟨n.toNat,by omega⟩
 rw [zdi]
 by_cases hk:k=0
 ·subst hk;rw [zbV];rfl
 ·rw [zcK k hk,zb5 hk,show k / 10=0 by omega,zb6,show k%10=k by omega]
  first | done | rfl
theorem zam {n:Int} (h:10≤n):Lib.itoa n=Lib.itoa (n.tdiv 10)++Lib.itoa (n.tmod 10):=by
 obtain ⟨k,rfl⟩:∃k:Nat,n=k:=⟨n.toNat,by omega⟩
 have e1:(k:Int).tdiv 10=((k / 10:Nat):Int):=rfl
 have e2:(k:Int).tmod 10=((k%10:Nat):Int):=rfl
 rw [e1,e2,zdi,zdi,zcK k (by omega),zb5 (by omega),zcK (k / 10) (by omega),qc (by omega) (by omega)]
 congr 1
theorem zgu {n:Int} (h:n<0):Lib.itoa n=[45]++Lib.itoa (-n):=by
 unfold Lib.itoa
 rw [if_pos h,if_neg (by omega)]
 have:n.natAbs=(-n).toNat:=by omega
 simp [this]
end Go.Proofs.YtdkofaajcpcjkaaDoor
namespace Go.Proofs.YtdkofaajcpcjkaaDoor
open Go.RowKit
mutual
def sameX:Xp→Xp→Bool
 | .mk o n l,b=>(o == b.op) && (n == b.n) && sameL l b.l
def sameL:List Xp→List Xp→Bool
 | [],[]=>true
 | x::r,y::s=>sameX x y && sameL r s
 | [],_::_=>false
 | _::_,[]=>false
end
mutual
theorem zii:∀a b:Xp,sameX a b=true↔a=b
 | .mk o n l,.mk p m k=>by
  rw [sameX,Bool.and_eq_true,Bool.and_eq_true,beq_iff_eq,beq_iff_eq,zcq l]
  simp only [Xp.op,Xp.n,Xp.l,Xp.mk.injEq,and_assoc]
theorem zcq:∀l m:List Xp,sameL l m=true↔l=m
 | [],[]=>by rw [sameL];simp
 | x::r,y::s=>by rw [sameL,Bool.and_eq_true,zii x,zcq r,List.cons.injEq]
 | [],_::_=>by rw [sameL];simp
 | _::_,[]=>by rw [sameL];simp
end
theorem zai (a b:Xp):sameX a b=((a.op == b.op) && (a.n == b.n) && sameL a.l b.l):=by cases a;rw [sameX];rfl
theorem q4 {l m:List Xp} {k:Nat} {x y:Xp} (h:l[k]?=some x) (h2:m[k]?=some y):sameL (l.drop k) (m.drop k)=(sameX x y && sameL (l.drop (k+1)) (m.drop (k+1))):=by
 obtain ⟨hk,rfl⟩:=List.getElem?_eq_some_iff.1 h
 obtain ⟨hk2,rfl⟩:=List.getElem?_eq_some_iff.1 h2
 rw [List.drop_eq_getElem_cons hk,List.drop_eq_getElem_cons hk2,sameL]
theorem zdU {l m:List Xp} (h:l.length≠m.length):sameL l m=false:=by
 cases e:sameL l m with
 | false=>rfl
 | true=>exact absurd (congrArg List.length ((zcq l m).1 e)) h
def z6 (w0:World) (N:Nat):Prop:=∀(x y:Xp) (v:Bool),sameX x y=v→nodes x≤N→Fun (KN w0) Tryd.prog 15 [.o (.g [pI x.op,pI x.n,pLs cE x.l]),.o (.g [pI y.op,pI y.n,pLs cE y.l])] (.o (.c (pB v)))
def zV (w0:World) (N:Nat):Prop:=∀(x y:Xp) (v:Bool),sameX x y=v→nodes x≤N→Fun (KN w0) Tryd.prog 16 [.o (.g [pI x.op,pI x.n,pLs cE x.l]),.o (.g [pI y.op,pI y.n,pLs cE y.l])] (.o (.c (pB v)))
structure x_eqf_A_T where
 i:Int
def zX:List Atom:=[.sl 0 (.o (.c (.h 0))),.sl 1 (.o (.c (.h 1))),.sl 2 (.o (.c (.q 15 []))),.sl 10 (.o (.c (.h 0))),.sl 11 (.o (.c (.h 2))),.sl 12 (.o (.c (.h 1))),.sl 13 (.o (.c (.h 3))),.sl 14 (.o (.c (.h 4))),.sl 15 (.o (.c (.h 0))),.sl 16 (.o (.c (.h 5))),.sl 17 (.o (.c (.h 6)))]
def zat:LoopS:=⟨4,[.sl 0 (.o (.c (.h 0))),.sl 1 (.o (.c (.h 1))),.sl 2 (.o (.c (.q 15 []))),.sl 10 (.o (.c (.h 0))),.sl 11 (.o (.c (.h 2))),.sl 12 (.o (.c (.h 1))),.sl 13 (.o (.c (.h 3))),.sl 14 (.o (.c (.h 4))),.sl 15 (.o (.c (.h 0))),.sl 16 (.o (.c (.h 5))),.sl 17 (.o (.c (.k (.int .i64 0))))],(.x 0),[.sl 0 (.o (.c (.h 0))),.sl 1 (.o (.c (.h 1))),.sl 2 (.o (.c (.q 15 []))),.sl 10 (.o (.c (.h 0))),.sl 11 (.o (.c (.h 2))),.sl 12 (.o (.c (.h 1))),.sl 13 (.o (.c (.h 3))),.sl 14 (.o (.c (.h 4))),.sl 15 (.o (.c (.h 0))),.sl 16 (.o (.c (.h 5)))]⟩
theorem zcY {w0:World} (l:(List Xp)) (l2:(List Xp)) (N:Nat) (v1:Int) (v2:Int) (v3:Bool) (v5:Int) (IH:z6 w0 N) (h4:v3=false) (i:Int) (v501:Bool) (n503:Nat) (x504:Xp) (n507:Nat) (x508:Xp) (v511:Bool) (v513:Bool) (v515:Int) (e501:(decide (i<v5))=v501) (e511:(sameX x504 x508)=v511) (e513:(!v511)=v513) (e515:(IntKind.i64.wrap (i+(1:Int)))=v515) (h502:v501=true) (s505:i=(n503:Int)) (s506:l[n503]?=some x504) (s509:i=(n507:Int)) (s510:l2[n507]?=some x508) (s512:nodes x504≤N) (h514:v513=false) (i':Int) (q0:(v515)=i') (R:Frm) (hR:R.pm=⟨ntOf Tryd.prog 45,[],[]⟩):Goes (KN w0) Tryd.prog R (lp Tryd.prog 45 0) (FL [pLs cE l,pLs cE l2,pI v1,pI v2,pB v3,pI v5,pI i] []) zX .n (FL [pLs cE l,pLs cE l2,pI v1,pI v2,pB v3,pI v5,pI i'] []) zX:=
 goes (x:=.n) (y:=.n) (Fb:=FL [pLs cE l,pLs cE l2,pI v1,pI v2,pB v3,pI v5,pI i,pB v501,pP (cE x504),pI x504.op,pI x504.n,pLs cE x504.l,pP (cE x508),pI x508.op,pI x508.n,pLs cE x508.l,pB v511,pB v513,pI v515] []) (stb:=zX) (tl:=[.sl 0 (.o (.c (.h 0))),.sl 1 (.o (.c (.h 1))),.sl 2 (.o (.c (.q 15 []))),.sl 10 (.o (.c (.h 0))),.sl 11 (.o (.c (.h 2))),.sl 12 (.o (.c (.h 1))),.sl 13 (.o (.c (.h 3))),.sl 14 (.o (.c (.h 4))),.sl 15 (.o (.c (.h 0))),.sl 16 (.o (.c (.h 5))),.sl 17 (.o (.c (.h 18)))]) (C:=((10004,.fb 4 false) ::
  (1005000,.bin .lss 3 (LF (.h 6)) (LF (.h 5)) (LF (.h 7))) ::
  (10007,.fb 7 true) ::
  (1005002,.op (.ia 28) [LF (.h 0),LF (.h 6)] [] (LF (.h 8))) ::
  (1005003,.op (.ld 31) [LF (.h 8)] [] (.o (.g [.h 9,.h 10,.h 11]))) ::
  (1005009,.op (.ia 28) [LF (.h 1),LF (.h 6)] [] (LF (.h 12))) ::
  (1005010,.op (.ld 31) [LF (.h 12)] [] (.o (.g [.h 13,.h 14,.h 15]))) ::
  (1005016,.call ⟨15,[.o (.g [.h 9,.h 10,.h 11]),.o (.g [.h 13,.h 14,.h 15])],[],.o (.c (.h 16)),[]⟩) ::
  (1005017,.un .not (LF (.h 16)) (LF (.h 17))) ::
  (10017,.fb 17 false) ::
  (1005018,.bin .add 3 (LF (.h 6)) (LF (.k (.int .i64 1))) (LF (.h 18))) ::
  []:List (Nat×Ent))) (H:=.no) 5000 (zipA.imp ⟨z_c (fun _ _ _ h=>h),z_c (fun _ _ _ h=>h),z_c (fun _ _ _ h=>h),z_c (fun _ _ _ h=>h),z_c (fun _ _ _ h=>h),z_c (fun _ _ _ h=>h),z_c (fun _ _ _ h=>h),z_c (fun _ _ _ h=>h),z_c (fun _ _ _ h=>h),z_c (fun _ _ _ h=>h),z_c (fun _ _ _ h=>h),trivial⟩) (zi ⟨(ze (zh rfl)),(ze (zh rfl)),zb rfl,zb rfl,zb rfl,zb rfl,zb rfl,zb rfl,(zu ((zh rfl) _)),zb rfl,zb rfl,(ze (zh rfl)),(zu ((zh rfl) _)),zb rfl,zb rfl,(ze (zh rfl)),zb rfl,zb rfl,zb rfl,trivial⟩) ⟨e_fb (show pV (.bool v3)=_ by rw [h4]),
  e_bin (za rfl) (za rfl) (za rfl) (r_cmp (congrArg some e501)),
  e_fb (show pV (.bool v501)=_ by rw [h502]),
  e_iaL (E:=31) (z:=3) zp (by kernel_rfl) (by kernel_rfl) (zd rfl) (za rfl) s505 s506 (zd rfl),
  e_ldG (by kernel_rfl) (by kernel_rfl) (zd rfl) (cE_eq _).symm rfl (zp _),
  e_iaL (E:=31) (z:=3) zp (by kernel_rfl) (by kernel_rfl) (zd rfl) (za rfl) s509 s510 (zd rfl),
  e_ldG (by kernel_rfl) (by kernel_rfl) (zd rfl) (cE_eq _).symm rfl (zp _),
  zg (IH x504 x508 v511 e511 s512) rfl rfl rfl rfl,
  e_un (za rfl) (za rfl) (fun W=>by rw [← e513];exact r_not W),
  e_fb (show pV (.bool v513)=_ by rw [h514]),
  e_bin (za rfl) zc (za rfl) (r_ar (congrArg some e515)),
  trivial⟩ mixed hR trivial (fun _ _ _ hs=>by cases hs) (by kernel_rfl:qk (KN w0) Tryd.prog _ .no ⟨ntOf Tryd.prog 45,[],[]⟩ (lp Tryd.prog 45 0) 5000 zX .n [.sl 0 (.o (.c (.h 0))),.sl 1 (.o (.c (.h 1))),.sl 2 (.o (.c (.q 15 []))),.sl 10 (.o (.c (.h 0))),.sl 11 (.o (.c (.h 2))),.sl 12 (.o (.c (.h 1))),.sl 13 (.o (.c (.h 3))),.sl 14 (.o (.c (.h 4))),.sl 15 (.o (.c (.h 0))),.sl 16 (.o (.c (.h 5))),.sl 17 (.o (.c (.h 18)))]=true) rfl (zipA.imp ⟨z_c (fun _ _ _ h=>h),z_c (fun _ _ _ h=>h),z_c (fun _ _ _ h=>h),z_c (fun _ _ _ h=>h),z_c (fun _ _ _ h=>h),z_c (fun _ _ _ h=>h),z_c (fun _ _ _ h=>h),z_c (fun _ _ _ h=>h),z_c (fun _ _ _ h=>h),z_c (fun _ _ _ h=>h),z_c (fun β v W h=>(zd rfl β v W).2 (by rw [← q0];exact h)),trivial⟩)
theorem zg1 {w0:World} (l:(List Xp)) (l2:(List Xp)) (N:Nat) (v1:Int) (v2:Int) (v3:Bool) (v5:Int) (IH:z6 w0 N) (h4:v3=false) (i:Int) (v501:Bool) (e501:(decide (i<v5))=v501) (h502:v501=false) (F:Fact) (u0:F.c 0=pLs cE l) (u1:F.c 1=pLs cE l2) (u2:F.c 2=pI v1) (u3:F.c 3=pI v2) (u4:F.c 4=pB v3) (u5:F.c 5=pI v5) (R:Frm) (hR:R.pm=⟨ntOf Tryd.prog 45,[],[]⟩):Goes (KN w0) Tryd.prog R (lp Tryd.prog 45 0) (FL [pLs cE l,pLs cE l2,pI v1,pI v2,pB v3,pI v5,pI i] []) zX (.x 0) F zat.out:=
 goes (x:=(.x 0)) (y:=(.x 0)) (Fb:=FL [pLs cE l,pLs cE l2,pI v1,pI v2,pB v3,pI v5,pI i,pB v501] []) (stb:=zX) (tl:=[.sl 0 (.o (.c (.h 0))),.sl 1 (.o (.c (.h 1))),.sl 2 (.o (.c (.q 15 []))),.sl 10 (.o (.c (.h 0))),.sl 11 (.o (.c (.h 2))),.sl 12 (.o (.c (.h 1))),.sl 13 (.o (.c (.h 3))),.sl 14 (.o (.c (.h 4))),.sl 15 (.o (.c (.h 0))),.sl 16 (.o (.c (.h 5)))]) (C:=((10004,.fb 4 false) ::
  (1005000,.bin .lss 3 (LF (.h 6)) (LF (.h 5)) (LF (.h 7))) ::
  (10007,.fb 7 false) ::
  []:List (Nat×Ent))) (H:=.no) 5000 (zipA.imp ⟨z_c (fun _ _ _ h=>h),z_c (fun _ _ _ h=>h),z_c (fun _ _ _ h=>h),z_c (fun _ _ _ h=>h),z_c (fun _ _ _ h=>h),z_c (fun _ _ _ h=>h),z_c (fun _ _ _ h=>h),z_c (fun _ _ _ h=>h),z_c (fun _ _ _ h=>h),z_c (fun _ _ _ h=>h),z_c (fun _ _ _ h=>h),trivial⟩) (zi ⟨(ze (zh rfl)),(ze (zh rfl)),zb rfl,zb rfl,zb rfl,zb rfl,zb rfl,zb rfl,trivial⟩) ⟨e_fb (show pV (.bool v3)=_ by rw [h4]),
  e_bin (za rfl) (za rfl) (za rfl) (r_cmp (congrArg some e501)),
  e_fb (show pV (.bool v501)=_ by rw [h502]),
  trivial⟩ mixed hR trivial (fun _ _ _ hs=>by cases hs) (by kernel_rfl:qk (KN w0) Tryd.prog _ .no ⟨ntOf Tryd.prog 45,[],[]⟩ (lp Tryd.prog 45 0) 5000 zX (.x 0) [.sl 0 (.o (.c (.h 0))),.sl 1 (.o (.c (.h 1))),.sl 2 (.o (.c (.q 15 []))),.sl 10 (.o (.c (.h 0))),.sl 11 (.o (.c (.h 2))),.sl 12 (.o (.c (.h 1))),.sl 13 (.o (.c (.h 3))),.sl 14 (.o (.c (.h 4))),.sl 15 (.o (.c (.h 0))),.sl 16 (.o (.c (.h 5)))]=true) rfl (zipA.imp ⟨z_c (fun β v W h=>(zd u0 β v W).2 h),z_c (fun β v W h=>(zd u1 β v W).2 h),z_c (fun _ _ _ h=>h),z_c (fun β v W h=>(zd u0 β v W).2 h),z_c (fun β v W h=>(zd u2 β v W).2 h),z_c (fun β v W h=>(zd u1 β v W).2 h),z_c (fun β v W h=>(zd u3 β v W).2 h),z_c (fun β v W h=>(zd u4 β v W).2 h),z_c (fun β v W h=>(zd u0 β v W).2 h),z_c (fun β v W h=>(zd u5 β v W).2 h),trivial⟩)
def ziJ (l:(List Xp)) (l2:(List Xp)) (N:Nat) (v1:Int) (v2:Int) (v3:Bool) (v5:Int) (t:x_eqf_A_T):Prop:=(∃(v501:Bool),((decide (t.i<v5))=v501)∧(v501=false)∧True)
def zd2 (l:(List Xp)) (l2:(List Xp)) (N:Nat) (v1:Int) (v2:Int) (v3:Bool) (v5:Int) (t t':x_eqf_A_T):Prop:=(∃(v501:Bool),∃(n503:Nat),∃(x504:Xp),∃(n507:Nat),∃(x508:Xp),∃(v511:Bool),∃(v513:Bool),∃(v515:Int),((decide (t.i<v5))=v501)∧((sameX x504 x508)=v511)∧((!v511)=v513)∧((IntKind.i64.wrap (t.i+(1:Int)))=v515)∧(v501=true)∧(t.i=(n503:Int))∧(l[n503]?=some x504)∧(t.i=(n507:Int))∧(l2[n507]?=some x508)∧(nodes x504≤N)∧(v513=false)∧((v515)=t'.i)∧True)
theorem zd3 {w0:World} (l:(List Xp)) (l2:(List Xp)) (N:Nat) (v1:Int) (v2:Int) (v3:Bool) (v5:Int) (IH:z6 w0 N) (h4:v3=false) {F:Fact} (u0:F.c 0=pLs cE l) (u1:F.c 1=pLs cE l2) (u2:F.c 2=pI v1) (u3:F.c 3=pI v2) (u4:F.c 4=pB v3) (u5:F.c 5=pI v5) (R:Frm) (hR:R.pm=⟨ntOf Tryd.prog 45,[],[]⟩) (J:x_eqf_A_T→Prop) (m:x_eqf_A_T→Nat) (hJ:J { i:=(0:Int) }) (rounds:∀t,J t→ziJ l l2 N v1 v2 v3 v5 t ∨∃t',zd2 l l2 N v1 v2 v3 v5 t t'∧m t'<m t∧J t'):zt (KN w0) Tryd.prog F R zat (lp Tryd.prog 45 0):=by
 refine qg (T:=x_eqf_A_T) (fun t=>FL [pLs cE l,pLs cE l2,pI v1,pI v2,pB v3,pI v5,pI t.i] []) J m { i:=(0:Int) } zX hJ (zipA.imp ⟨z_c (fun β v W h=>(zd u0 β v W).1 h),z_c (fun β v W h=>(zd u1 β v W).1 h),z_c (fun _ _ _ h=>h),z_c (fun β v W h=>(zd u0 β v W).1 h),z_c (fun β v W h=>(zd u2 β v W).1 h),z_c (fun β v W h=>(zd u1 β v W).1 h),z_c (fun β v W h=>(zd u3 β v W).1 h),z_c (fun β v W h=>(zd u4 β v W).1 h),z_c (fun β v W h=>(zd u0 β v W).1 h),z_c (fun β v W h=>(zd u5 β v W).1 h),z_c (fun _ _ _ h=>h),trivial⟩) rfl fun t ht=>?_
 rcases rounds t ht with hz_ | ⟨t',hz_,hm_,hj_⟩
 ·refine .inl ?_
  rcases hz_ with ⟨v501,e501,h502,_⟩
  ·exact zg1  l l2 N v1 v2 v3 v5 IH h4 t.i v501 e501 h502  F u0 u1 u2 u3 u4 u5  R hR
 ·refine .inr ⟨t',hm_,hj_,?_⟩
  rcases hz_ with ⟨v501,n503,x504,n507,x508,v511,v513,v515,e501,e511,e513,e515,h502,s505,s506,s509,s510,s512,h514,q0,_⟩
  ·exact zcY  l l2 N v1 v2 v3 v5 IH h4 t.i v501 n503 x504 n507 x508 v511 v513 v515 e501 e511 e513 e515 h502 s505 s506 s509 s510 s512 h514 t'.i q0 R hR
theorem zg0 {w0:World} (l:(List Xp)) (l2:(List Xp)) (N:Nat) (v1:Int) (v2:Int) (v3:Bool) (v5:Int) (IH:z6 w0 N) (h4:v3=false) {F:Fact} (u0:F.c 0=pLs cE l) (u1:F.c 1=pLs cE l2) (u2:F.c 2=pI v1) (u3:F.c 3=pI v2) (u4:F.c 4=pB v3) (u5:F.c 5=pI v5) (R:Frm) (hR:R.pm=⟨ntOf Tryd.prog 45,[],[]⟩) (hb:l.length<9223372036854775808) (hlm:l.length=l2.length) (hN:∀x∈l,nodes x≤N) (hln:(l.length:Int)=v5) (hO:sameL l l2=true):zt (KN w0) Tryd.prog F R zat (lp Tryd.prog 45 0):=by
 refine zd3  l l2 N v1 v2 v3 v5 IH h4  u0 u1 u2 u3 u4 u5 R hR (fun ⟨i⟩=>∃k:Nat,i=(k:Int)∧k≤l.length∧sameL (l.drop k) (l2.drop k)=true) (fun ⟨i⟩=>((l.length:Int) - i).toNat) ⟨0,rfl,Nat.zero_le _,by rw [List.drop_zero,List.drop_zero];exact hO⟩ fun t hJ=>?_
 obtain ⟨i⟩:=t
 dsimp only at hJ
 obtain ⟨k,hi,hk,hs⟩:=hJ
 obtain ⟨v501,e501⟩:∃v,(decide (i<v5))=v:=⟨_,rfl⟩
 cases h502:v501 with
 | true =>
  obtain ⟨n503,x504,s505,s506⟩:∃(n503:Nat) (x504:Xp),i=(n503:Int)∧l[n503]?=some x504:=by (have dh502:=of_decide_eq_true (e501.trans h502);have hz:=hln;have hlt:k<l.length:=(by omega);exact ⟨k,_,hi,List.getElem?_eq_getElem hlt⟩)
  obtain ⟨n507,x508,s509,s510⟩:∃(n507:Nat) (x508:Xp),i=(n507:Int)∧l2[n507]?=some x508:=by (have dh502:=of_decide_eq_true (e501.trans h502);have hz:=hln;have hlt:k<l2.length:=(by omega);exact ⟨k,_,hi,List.getElem?_eq_getElem hlt⟩)
  obtain ⟨v511,e511⟩:∃v,(sameX x504 x508)=v:=⟨_,rfl⟩
  have s512:nodes x504≤N:=by exact hN _ (List.mem_of_getElem? s506)
  obtain ⟨v513,e513⟩:∃v,(!v511)=v:=⟨_,rfl⟩
  cases h514:v513 with
  | true =>
   exfalso
   have dh502:=of_decide_eq_true (e501.trans h502);have hz:=hln;have hk1:n503=k:=(by omega);have hk2:n503=n507:=(by omega);subst hk1;subst hk2;have hd:=q4 s506 s510;rw [e511,show v511=false from (by simp_all)] at hd;rw [hs] at hd;cases hd
  | false =>
   obtain ⟨v515,e515⟩:∃v,(IntKind.i64.wrap (i+(1:Int)))=v:=⟨_,rfl⟩
   refine .inr ⟨⟨v515⟩,⟨v501,n503,x504,n507,x508,v511,v513,v515,e501,e511,e513,e515,h502,s505,s506,s509,s510,s512,h514,rfl,trivial⟩,?_,?_⟩
   all_goals (have dh502:=of_decide_eq_true (e501.trans h502);have hz:=hln;have hk1:n503=k:=(by omega);have hk2:n503=n507:=(by omega);subst hk1;subst hk2;have hd:=q4 s506 s510;rw [e511,show v511=true from (by simp_all)] at hd;have hlt:n503<l.length:=(List.getElem?_eq_some_iff.1 s506).1;have x3:v515=((n503+1:Nat):Int):=(by rw [← e515,hi,wri (by omega)];omega))
   ·show ((l.length:Int) - v515).toNat<((l.length:Int) - i).toNat
    omega
   ·exact ⟨n503+1,x3,by omega,by rw [hs,Bool.true_and] at hd;exact hd.symm⟩
 | false =>
  refine .inl (⟨v501,e501,h502,trivial⟩)
def zau:LoopS:=⟨4,[.sl 0 (.o (.c (.h 0))),.sl 1 (.o (.c (.h 1))),.sl 2 (.o (.c (.q 15 []))),.sl 10 (.o (.c (.h 0))),.sl 11 (.o (.c (.h 2))),.sl 12 (.o (.c (.h 1))),.sl 13 (.o (.c (.h 3))),.sl 14 (.o (.c (.h 4))),.sl 15 (.o (.c (.h 0))),.sl 16 (.o (.c (.h 5))),.sl 17 (.o (.c (.k (.int .i64 0))))],.r,[.sl 0 (.o (.c (.h 0))),.sl 1 (.o (.c (.h 1))),.sl 2 (.o (.c (.q 15 []))),.sl 6 (.o (.c (.h 6))),.sl 10 (.o (.c (.h 0))),.sl 11 (.o (.c (.h 2))),.sl 12 (.o (.c (.h 1))),.sl 13 (.o (.c (.h 3))),.sl 14 (.o (.c (.h 4))),.sl 15 (.o (.c (.h 0))),.sl 16 (.o (.c (.h 5)))]⟩
theorem zg3 {w0:World} (l:(List Xp)) (l2:(List Xp)) (N:Nat) (v1:Int) (v2:Int) (v3:Bool) (v5:Int) (IH:z6 w0 N) (h4:v3=false) (i:Int) (v501:Bool) (n503:Nat) (x504:Xp) (n507:Nat) (x508:Xp) (v511:Bool) (v513:Bool) (e501:(decide (i<v5))=v501) (e511:(sameX x504 x508)=v511) (e513:(!v511)=v513) (h502:v501=true) (s505:i=(n503:Int)) (s506:l[n503]?=some x504) (s509:i=(n507:Int)) (s510:l2[n507]?=some x508) (s512:nodes x504≤N) (h514:v513=true) (o:Bool) (F:Fact) (u0:F.c 0=pLs cE l) (u1:F.c 1=pLs cE l2) (u2:F.c 2=pI v1) (u3:F.c 3=pI v2) (u4:F.c 4=pB v3) (u5:F.c 5=pI v5) (u6:F.c 6=pB o) (q0:(false)=o) (R:Frm) (hR:R.pm=⟨ntOf Tryd.prog 45,[],[]⟩):Goes (KN w0) Tryd.prog R (lp Tryd.prog 45 0) (FL [pLs cE l,pLs cE l2,pI v1,pI v2,pB v3,pI v5,pI i] []) zX .r F zau.out:=
 goes (x:=.r) (y:=.r) (Fb:=FL [pLs cE l,pLs cE l2,pI v1,pI v2,pB v3,pI v5,pI i,pB v501,pP (cE x504),pI x504.op,pI x504.n,pLs cE x504.l,pP (cE x508),pI x508.op,pI x508.n,pLs cE x508.l,pB v511,pB v513] []) (stb:=zX) (tl:=[.sl 0 (.o (.c (.h 0))),.sl 1 (.o (.c (.h 1))),.sl 2 (.o (.c (.q 15 []))),.sl 6 (.o (.c (.k (.bool false)))),.sl 10 (.o (.c (.h 0))),.sl 11 (.o (.c (.h 2))),.sl 12 (.o (.c (.h 1))),.sl 13 (.o (.c (.h 3))),.sl 14 (.o (.c (.h 4))),.sl 15 (.o (.c (.h 0))),.sl 16 (.o (.c (.h 5)))]) (C:=((10004,.fb 4 false) ::
  (1005000,.bin .lss 3 (LF (.h 6)) (LF (.h 5)) (LF (.h 7))) ::
  (10007,.fb 7 true) ::
  (1005002,.op (.ia 28) [LF (.h 0),LF (.h 6)] [] (LF (.h 8))) ::
  (1005003,.op (.ld 31) [LF (.h 8)] [] (.o (.g [.h 9,.h 10,.h 11]))) ::
  (1005009,.op (.ia 28) [LF (.h 1),LF (.h 6)] [] (LF (.h 12))) ::
  (1005010,.op (.ld 31) [LF (.h 12)] [] (.o (.g [.h 13,.h 14,.h 15]))) ::
  (1005016,.call ⟨15,[.o (.g [.h 9,.h 10,.h 11]),.o (.g [.h 13,.h 14,.h 15])],[],.o (.c (.h 16)),[]⟩) ::
  (1005017,.un .not (LF (.h 16)) (LF (.h 17))) ::
  (10017,.fb 17 true) ::
  []:List (Nat×Ent))) (H:=.no) 5000 (zipA.imp ⟨z_c (fun _ _ _ h=>h),z_c (fun _ _ _ h=>h),z_c (fun _ _ _ h=>h),z_c (fun _ _ _ h=>h),z_c (fun _ _ _ h=>h),z_c (fun _ _ _ h=>h),z_c (fun _ _ _ h=>h),z_c (fun _ _ _ h=>h),z_c (fun _ _ _ h=>h),z_c (fun _ _ _ h=>h),z_c (fun _ _ _ h=>h),trivial⟩) (zi ⟨(ze (zh rfl)),(ze (zh rfl)),zb rfl,zb rfl,zb rfl,zb rfl,zb rfl,zb rfl,(zu ((zh rfl) _)),zb rfl,zb rfl,(ze (zh rfl)),(zu ((zh rfl) _)),zb rfl,zb rfl,(ze (zh rfl)),zb rfl,zb rfl,trivial⟩) ⟨e_fb (show pV (.bool v3)=_ by rw [h4]),
  e_bin (za rfl) (za rfl) (za rfl) (r_cmp (congrArg some e501)),
  e_fb (show pV (.bool v501)=_ by rw [h502]),
  e_iaL (E:=31) (z:=3) zp (by kernel_rfl) (by kernel_rfl) (zd rfl) (za rfl) s505 s506 (zd rfl),
  e_ldG (by kernel_rfl) (by kernel_rfl) (zd rfl) (cE_eq _).symm rfl (zp _),
  e_iaL (E:=31) (z:=3) zp (by kernel_rfl) (by kernel_rfl) (zd rfl) (za rfl) s509 s510 (zd rfl),
  e_ldG (by kernel_rfl) (by kernel_rfl) (zd rfl) (cE_eq _).symm rfl (zp _),
  zg (IH x504 x508 v511 e511 s512) rfl rfl rfl rfl,
  e_un (za rfl) (za rfl) (fun W=>by rw [← e513];exact r_not W),
  e_fb (show pV (.bool v513)=_ by rw [h514]),
  trivial⟩ mixed hR trivial (fun _ _ _ hs=>by cases hs) (by kernel_rfl:qk (KN w0) Tryd.prog _ .no ⟨ntOf Tryd.prog 45,[],[]⟩ (lp Tryd.prog 45 0) 5000 zX .r [.sl 0 (.o (.c (.h 0))),.sl 1 (.o (.c (.h 1))),.sl 2 (.o (.c (.q 15 []))),.sl 6 (.o (.c (.k (.bool false)))),.sl 10 (.o (.c (.h 0))),.sl 11 (.o (.c (.h 2))),.sl 12 (.o (.c (.h 1))),.sl 13 (.o (.c (.h 3))),.sl 14 (.o (.c (.h 4))),.sl 15 (.o (.c (.h 0))),.sl 16 (.o (.c (.h 5)))]=true) rfl (zipA.imp ⟨z_c (fun β v W h=>(zd u0 β v W).2 h),z_c (fun β v W h=>(zd u1 β v W).2 h),z_c (fun _ _ _ h=>h),z_c (fun β v W h=>(zd u6 β v W).2 (by rw [← q0];exact h)),z_c (fun β v W h=>(zd u0 β v W).2 h),z_c (fun β v W h=>(zd u2 β v W).2 h),z_c (fun β v W h=>(zd u1 β v W).2 h),z_c (fun β v W h=>(zd u3 β v W).2 h),z_c (fun β v W h=>(zd u4 β v W).2 h),z_c (fun β v W h=>(zd u0 β v W).2 h),z_c (fun β v W h=>(zd u5 β v W).2 h),trivial⟩)
def ziK (l:(List Xp)) (l2:(List Xp)) (N:Nat) (v1:Int) (v2:Int) (v3:Bool) (v5:Int) (t:x_eqf_A_T) (o:Bool):Prop:=(∃(v501:Bool),∃(n503:Nat),∃(x504:Xp),∃(n507:Nat),∃(x508:Xp),∃(v511:Bool),∃(v513:Bool),((decide (t.i<v5))=v501)∧((sameX x504 x508)=v511)∧((!v511)=v513)∧(v501=true)∧(t.i=(n503:Int))∧(l[n503]?=some x504)∧(t.i=(n507:Int))∧(l2[n507]?=some x508)∧(nodes x504≤N)∧(v513=true)∧((false)=o)∧True)
theorem zd4 {w0:World} (l:(List Xp)) (l2:(List Xp)) (N:Nat) (v1:Int) (v2:Int) (v3:Bool) (v5:Int) (IH:z6 w0 N) (h4:v3=false) (o:Bool) {F:Fact} (u0:F.c 0=pLs cE l) (u1:F.c 1=pLs cE l2) (u2:F.c 2=pI v1) (u3:F.c 3=pI v2) (u4:F.c 4=pB v3) (u5:F.c 5=pI v5) (u6:F.c 6=pB o) (R:Frm) (hR:R.pm=⟨ntOf Tryd.prog 45,[],[]⟩) (J:x_eqf_A_T→Prop) (m:x_eqf_A_T→Nat) (hJ:J { i:=(0:Int) }) (rounds:∀t,J t→ziK l l2 N v1 v2 v3 v5 t o∨∃t',zd2 l l2 N v1 v2 v3 v5 t t'∧m t'<m t∧J t'):zt (KN w0) Tryd.prog F R zau (lp Tryd.prog 45 0):=by
 refine qg (T:=x_eqf_A_T) (fun t=>FL [pLs cE l,pLs cE l2,pI v1,pI v2,pB v3,pI v5,pI t.i] []) J m { i:=(0:Int) } zX hJ (zipA.imp ⟨z_c (fun β v W h=>(zd u0 β v W).1 h),z_c (fun β v W h=>(zd u1 β v W).1 h),z_c (fun _ _ _ h=>h),z_c (fun β v W h=>(zd u0 β v W).1 h),z_c (fun β v W h=>(zd u2 β v W).1 h),z_c (fun β v W h=>(zd u1 β v W).1 h),z_c (fun β v W h=>(zd u3 β v W).1 h),z_c (fun β v W h=>(zd u4 β v W).1 h),z_c (fun β v W h=>(zd u0 β v W).1 h),z_c (fun β v W h=>(zd u5 β v W).1 h),z_c (fun _ _ _ h=>h),trivial⟩) rfl fun t ht=>?_
 rcases rounds t ht with hz_ | ⟨t',hz_,hm_,hj_⟩
 ·refine .inl ?_
  rcases hz_ with ⟨v501,n503,x504,n507,x508,v511,v513,e501,e511,e513,h502,s505,s506,s509,s510,s512,h514,q0,_⟩
  ·exact zg3  l l2 N v1 v2 v3 v5 IH h4 t.i v501 n503 x504 n507 x508 v511 v513 e501 e511 e513 h502 s505 s506 s509 s510 s512 h514 o F u0 u1 u2 u3 u4 u5 u6 q0 R hR
 ·refine .inr ⟨t',hm_,hj_,?_⟩
  rcases hz_ with ⟨v501,n503,x504,n507,x508,v511,v513,v515,e501,e511,e513,e515,h502,s505,s506,s509,s510,s512,h514,q0,_⟩
  ·exact zcY  l l2 N v1 v2 v3 v5 IH h4 t.i v501 n503 x504 n507 x508 v511 v513 v515 e501 e511 e513 e515 h502 s505 s506 s509 s510 s512 h514 t'.i q0 R hR
theorem zg2 {w0:World} (l:(List Xp)) (l2:(List Xp)) (N:Nat) (v1:Int) (v2:Int) (v3:Bool) (v5:Int) (IH:z6 w0 N) (h4:v3=false) (o:Bool) {F:Fact} (u0:F.c 0=pLs cE l) (u1:F.c 1=pLs cE l2) (u2:F.c 2=pI v1) (u3:F.c 3=pI v2) (u4:F.c 4=pB v3) (u5:F.c 5=pI v5) (u6:F.c 6=pB o) (R:Frm) (hR:R.pm=⟨ntOf Tryd.prog 45,[],[]⟩) (hb:l.length<9223372036854775808) (hlm:l.length=l2.length) (hN:∀x∈l,nodes x≤N) (hln:(l.length:Int)=v5) (hO:sameL l l2=false) (ho:o=false):zt (KN w0) Tryd.prog F R zau (lp Tryd.prog 45 0):=by
 refine zd4  l l2 N v1 v2 v3 v5 IH h4 o u0 u1 u2 u3 u4 u5 u6 R hR (fun ⟨i⟩=>∃k:Nat,i=(k:Int)∧k≤l.length∧sameL (l.drop k) (l2.drop k)=false) (fun ⟨i⟩=>((l.length:Int) - i).toNat) ⟨0,rfl,Nat.zero_le _,by rw [List.drop_zero,List.drop_zero];exact hO⟩ fun t hJ=>?_
 obtain ⟨i⟩:=t
 dsimp only at hJ
 obtain ⟨k,hi,hk,hs⟩:=hJ
 obtain ⟨v501,e501⟩:∃v,(decide (i<v5))=v:=⟨_,rfl⟩
 cases h502:v501 with
 | true =>
  obtain ⟨n503,x504,s505,s506⟩:∃(n503:Nat) (x504:Xp),i=(n503:Int)∧l[n503]?=some x504:=by (have dh502:=of_decide_eq_true (e501.trans h502);have hz:=hln;have hlt:k<l.length:=(by omega);exact ⟨k,_,hi,List.getElem?_eq_getElem hlt⟩)
  obtain ⟨n507,x508,s509,s510⟩:∃(n507:Nat) (x508:Xp),i=(n507:Int)∧l2[n507]?=some x508:=by (have dh502:=of_decide_eq_true (e501.trans h502);have hz:=hln;have hlt:k<l2.length:=(by omega);exact ⟨k,_,hi,List.getElem?_eq_getElem hlt⟩)
  obtain ⟨v511,e511⟩:∃v,(sameX x504 x508)=v:=⟨_,rfl⟩
  have s512:nodes x504≤N:=by exact hN _ (List.mem_of_getElem? s506)
  obtain ⟨v513,e513⟩:∃v,(!v511)=v:=⟨_,rfl⟩
  cases h514:v513 with
  | true =>
   refine .inl (⟨v501,n503,x504,n507,x508,v511,v513,e501,e511,e513,h502,s505,s506,s509,s510,s512,h514,?_,trivial⟩)
   exact ho.symm
  | false =>
   obtain ⟨v515,e515⟩:∃v,(IntKind.i64.wrap (i+(1:Int)))=v:=⟨_,rfl⟩
   refine .inr ⟨⟨v515⟩,⟨v501,n503,x504,n507,x508,v511,v513,v515,e501,e511,e513,e515,h502,s505,s506,s509,s510,s512,h514,rfl,trivial⟩,?_,?_⟩
   all_goals (have dh502:=of_decide_eq_true (e501.trans h502);have hz:=hln;have hk1:n503=k:=(by omega);have hk2:n503=n507:=(by omega);subst hk1;subst hk2;have hd:=q4 s506 s510;rw [e511,show v511=true from (by simp_all)] at hd;have hlt:n503<l.length:=(List.getElem?_eq_some_iff.1 s506).1;have x3:v515=((n503+1:Nat):Int):=(by rw [← e515,hi,wri (by omega)];omega))
   ·show ((l.length:Int) - v515).toNat<((l.length:Int) - i).toNat
    omega
   ·exact ⟨n503+1,x3,by omega,by rw [hs,Bool.true_and] at hd;exact hd.symm⟩
 | false =>
  exfalso
  have dh502:=of_decide_eq_false (e501.trans h502);have hz:=hln;have hkl:k=l.length:=(by omega);rw [hkl,List.drop_length,hlm,List.drop_length,sameL] at hs;cases hs
theorem zjJ {w0:World} (l:(List Xp)) (l2:(List Xp)) (N:Nat) (IH:z6 w0 N) (v1:Int) (v2:Int) (v3:Bool) (e1:((l.length:Int))=v1) (e2:((l2.length:Int))=v2) (e3:((v1 != v2))=v3) (h4:v3=true):Fun (KN w0) Tryd.prog 45 [.o (.c (pLs cE l)),.o (.c (pLs cE l2)),.o (.c ((fun v _ _=>∃cs:Array Value,v=.func (.func 15) #[] cs∧cs.toList=[])))] (.o (.c (pV (.bool false)))):=
 zj (zl (F:=FL [pLs cE l,pLs cE l2,pI v1,pI v2,pB v3] []) (C:=[(1000002,.op (.len [28] 3) [LF (.h 0)] [] (LF (.h 2))),
  (1000004,.op (.len [28] 3) [LF (.h 1)] [] (LF (.h 3))),
  (1000005,.bin .neq 3 (LF (.h 2)) (LF (.h 3)) (LF (.h 4))),
  (10004,.fb 4 true)]) (k:=⟨45,[.o (.c (.h 0)),.o (.c (.h 1)),.o (.c (.q 15 []))],[],.o (.c (.k (.bool false))),[]⟩) 0 (zi ⟨(ze (zh rfl)),(ze (zh rfl)),zb rfl,zb rfl,zb rfl,trivial⟩) ⟨zm (E:=31) (by kernel_rfl) (zd rfl) (za (by rw [← e1];rfl)),
  zm (E:=31) (by kernel_rfl) (zd rfl) (za (by rw [← e2];rfl)),
  e_bin (za rfl) (za rfl) (za rfl) (r_cmp (congrArg some e3)),
  e_fb (show pV (.bool v3)=_ by rw [h4]),
  trivial⟩ mixed (by kernel_rfl)) rfl rfl rfl rfl
theorem zjK {w0:World} (l:(List Xp)) (l2:(List Xp)) (N:Nat) (IH:z6 w0 N) (v1:Int) (v2:Int) (v3:Bool) (v5:Int) (o:Bool) (e1:((l.length:Int))=v1) (e2:((l2.length:Int))=v2) (e3:((v1 != v2))=v3) (e5:((l.length:Int))=v5) (h4:v3=false) (L_x_eqf_B:∀R:Frm,R.pm=⟨ntOf Tryd.prog 45,[],[]⟩→zt (KN w0) Tryd.prog (FL [pLs cE l,pLs cE l2,pI v1,pI v2,pB v3,pI v5,pB o] []) R zau (lp Tryd.prog 45 0)):Fun (KN w0) Tryd.prog 45 [.o (.c (pLs cE l)),.o (.c (pLs cE l2)),.o (.c ((fun v _ _=>∃cs:Array Value,v=.func (.func 15) #[] cs∧cs.toList=[])))] (.o (.c (pB o))):=
 zj (zA (F:=FL [pLs cE l,pLs cE l2,pI v1,pI v2,pB v3,pI v5,pB o] []) (C:=[(1000002,.op (.len [28] 3) [LF (.h 0)] [] (LF (.h 2))),
  (1000004,.op (.len [28] 3) [LF (.h 1)] [] (LF (.h 3))),
  (1000005,.bin .neq 3 (LF (.h 2)) (LF (.h 3)) (LF (.h 4))),
  (10004,.fb 4 false),
  (1000007,.op (.len [28] 3) [LF (.h 0)] [] (LF (.h 5)))]) (k:=⟨45,[.o (.c (.h 0)),.o (.c (.h 1)),.o (.c (.q 15 []))],[],.o (.c (.h 6)),[]⟩) ⟨[zau],[],0⟩ [] 0 (zi ⟨(ze (zh rfl)),(ze (zh rfl)),zb rfl,zb rfl,zb rfl,zb rfl,zb rfl,trivial⟩) ⟨zm (E:=31) (by kernel_rfl) (zd rfl) (za (by rw [← e1];rfl)),
  zm (E:=31) (by kernel_rfl) (zd rfl) (za (by rw [← e2];rfl)),
  e_bin (za rfl) (za rfl) (za rfl) (r_cmp (congrArg some e3)),
  e_fb (show pV (.bool v3)=_ by rw [h4]),
  zm (E:=31) (by kernel_rfl) (zd rfl) (za (by rw [← e5];rfl)),
  trivial⟩ mixed trivial (fun R hR p hp s hs=>by
 have hl:zW (qP Tryd.prog 45)=[(4,lp Tryd.prog 45 0)]:=by kernel_rfl
 rw [hl] at hp
 simp only [List.mem_cons,List.not_mem_nil,or_false] at hp
 rcases hp with rfl
 ·have e:s=zau:=(Option.some.inj hs).symm
  subst e;exact L_x_eqf_B R hR) (by kernel_rfl)) rfl rfl rfl rfl
theorem zjL {w0:World} (l:(List Xp)) (l2:(List Xp)) (N:Nat) (IH:z6 w0 N) (v1:Int) (v2:Int) (v3:Bool) (v5:Int) (e1:((l.length:Int))=v1) (e2:((l2.length:Int))=v2) (e3:((v1 != v2))=v3) (e5:((l.length:Int))=v5) (h4:v3=false) (L_x_eqf_A:∀R:Frm,R.pm=⟨ntOf Tryd.prog 45,[],[]⟩→zt (KN w0) Tryd.prog (FL [pLs cE l,pLs cE l2,pI v1,pI v2,pB v3,pI v5] []) R zat (lp Tryd.prog 45 0)):Fun (KN w0) Tryd.prog 45 [.o (.c (pLs cE l)),.o (.c (pLs cE l2)),.o (.c ((fun v _ _=>∃cs:Array Value,v=.func (.func 15) #[] cs∧cs.toList=[])))] (.o (.c (pV (.bool true)))):=
 zj (zA (F:=FL [pLs cE l,pLs cE l2,pI v1,pI v2,pB v3,pI v5] []) (C:=[(1000002,.op (.len [28] 3) [LF (.h 0)] [] (LF (.h 2))),
  (1000004,.op (.len [28] 3) [LF (.h 1)] [] (LF (.h 3))),
  (1000005,.bin .neq 3 (LF (.h 2)) (LF (.h 3)) (LF (.h 4))),
  (10004,.fb 4 false),
  (1000007,.op (.len [28] 3) [LF (.h 0)] [] (LF (.h 5)))]) (k:=⟨45,[.o (.c (.h 0)),.o (.c (.h 1)),.o (.c (.q 15 []))],[],.o (.c (.k (.bool true))),[]⟩) ⟨[zat],[],0⟩ [] 0 (zi ⟨(ze (zh rfl)),(ze (zh rfl)),zb rfl,zb rfl,zb rfl,zb rfl,trivial⟩) ⟨zm (E:=31) (by kernel_rfl) (zd rfl) (za (by rw [← e1];rfl)),
  zm (E:=31) (by kernel_rfl) (zd rfl) (za (by rw [← e2];rfl)),
  e_bin (za rfl) (za rfl) (za rfl) (r_cmp (congrArg some e3)),
  e_fb (show pV (.bool v3)=_ by rw [h4]),
  zm (E:=31) (by kernel_rfl) (zd rfl) (za (by rw [← e5];rfl)),
  trivial⟩ mixed trivial (fun R hR p hp s hs=>by
 have hl:zW (qP Tryd.prog 45)=[(4,lp Tryd.prog 45 0)]:=by kernel_rfl
 rw [hl] at hp
 simp only [List.mem_cons,List.not_mem_nil,or_false] at hp
 rcases hp with rfl
 ·have e:s=zat:=(Option.some.inj hs).symm
  subst e;exact L_x_eqf_A R hR) (by kernel_rfl)) rfl rfl rfl rfl
theorem x_eqf {w0:World} {N:Nat} (IH:z6 w0 N) (l l2:List Xp) (r:Bool) (hr:sameL l l2=r) (hN:∀x∈l,nodes x≤N) (hb:l.length<9223372036854775808):Fun (KN w0) Tryd.prog 45 [.o (.c (pLs cE l)),.o (.c (pLs cE l2)),.o (.c ((fun v _ _=>∃cs:Array Value,v=.func (.func 15) #[] cs∧cs.toList=[])))] (.o (.c (pB r))):=by
 obtain ⟨v1,e1⟩:∃v,((l.length:Int))=v:=⟨_,rfl⟩
 obtain ⟨v2,e2⟩:∃v,((l2.length:Int))=v:=⟨_,rfl⟩
 obtain ⟨v3,e3⟩:∃v,((v1 != v2))=v:=⟨_,rfl⟩
 cases h4:v3 with
 | true =>
  refine Fun.imp (zjJ l l2 N IH v1 v2 v3 e1 e2 e3 h4) (fun _ _ _ h=>h) (fun v W D h=>?_)
  have r0:r=false:=by
   have q:=bne_iff_ne.1 (e3.trans h4);rw [← hr];exact zdU (by omega)
  rw [r0];exact h
 | false =>
  obtain ⟨v5,e5⟩:∃v,((l.length:Int))=v:=⟨_,rfl⟩
  by_cases c4:sameL l l2=true
  ·
   refine Fun.imp (zjL l l2 N IH v1 v2 v3 v5 e1 e2 e3 e5 h4 (fun R hR=>zg0 l l2 N v1 v2 v3 v5 IH  h4  rfl rfl rfl rfl rfl rfl R hR hb (by have q:=bne_eq_false_iff_eq.1 (e3.trans h4);omega) hN e5 c4)) (fun _ _ _ h=>h) (fun v W D h=>?_)
   have r0:r=true:=by
    rw [← hr];exact c4
   rw [r0];exact h
  ·
   obtain ⟨o,hO_x_eqf_B⟩:∃(o:Bool),false=o:=⟨_,rfl⟩
   refine Fun.imp (zjK l l2 N IH v1 v2 v3 v5 o e1 e2 e3 e5 h4 (fun R hR=>zg2 l l2 N v1 v2 v3 v5 IH  h4 o rfl rfl rfl rfl rfl rfl rfl R hR hb (by have q:=bne_eq_false_iff_eq.1 (e3.trans h4);omega) hN e5 (by simpa using c4) hO_x_eqf_B.symm)) (fun _ _ _ h=>h) (fun v W D h=>?_)
   have r0:r=o:=by
    rw [← hr,← hO_x_eqf_B];simpa using c4
   rw [r0];exact h
theorem zi8 {w0:World} (a:Xp) (b:Xp) (N:Nat) (IH:z6 w0 N) (v1:Bool) (v3:Bool) (v5:Bool) (e1:((a.op == b.op))=v1) (e3:((a.n == b.n))=v3) (e5:(sameL a.l b.l)=v5) (h2:v1=true) (h4:v3=true) (s6:∀x∈a.l,nodes x≤N) (s7:a.l.length<9223372036854775808):Fun (KN w0) Tryd.prog 15 [.o (.g [pI a.op,pI a.n,pLs cE a.l]),.o (.g [pI b.op,pI b.n,pLs cE b.l])] (.o (.c (pB v5))):=
 zj (zl (F:=FL [pI a.op,pI a.n,pLs cE a.l,pI b.op,pI b.n,pLs cE b.l,pB v1,pB v3,pB v5] []) (C:=[(1000007,.bin .eql 3 (LF (.h 0)) (LF (.h 3)) (LF (.h 6))),
  (10006,.fb 6 true),
  (1000013,.bin .eql 3 (LF (.h 1)) (LF (.h 4)) (LF (.h 7))),
  (10007,.fb 7 true),
  (1000020,.call ⟨45,[.o (.c (.h 2)),.o (.c (.h 5)),.o (.c (.q 15 []))],[],.o (.c (.h 8)),[]⟩)]) (k:=⟨15,[.o (.g [.h 0,.h 1,.h 2]),.o (.g [.h 3,.h 4,.h 5])],[],.o (.c (.h 8)),[]⟩) 0 (zi ⟨zb rfl,zb rfl,(ze (zh rfl)),zb rfl,zb rfl,(ze (zh rfl)),zb rfl,zb rfl,zb rfl,trivial⟩) ⟨e_bin (za rfl) (za rfl) (za rfl) (r_cmp (congrArg some e1)),
  e_fb (show pV (.bool v1)=_ by rw [h2]),
  e_bin (za rfl) (za rfl) (za rfl) (r_cmp (congrArg some e3)),
  e_fb (show pV (.bool v3)=_ by rw [h4]),
  zg (x_eqf IH a.l b.l v5 e5 s6 s7) rfl rfl rfl rfl,
  trivial⟩ mixed (by kernel_rfl)) rfl rfl rfl rfl
theorem zi9 {w0:World} (a:Xp) (b:Xp) (N:Nat) (IH:z6 w0 N) (v1:Bool) (v3:Bool) (e1:((a.op == b.op))=v1) (e3:((a.n == b.n))=v3) (h2:v1=true) (h4:v3=false):Fun (KN w0) Tryd.prog 15 [.o (.g [pI a.op,pI a.n,pLs cE a.l]),.o (.g [pI b.op,pI b.n,pLs cE b.l])] (.o (.c (pV (.bool false)))):=
 zj (zl (F:=FL [pI a.op,pI a.n,pLs cE a.l,pI b.op,pI b.n,pLs cE b.l,pB v1,pB v3] []) (C:=[(1000007,.bin .eql 3 (LF (.h 0)) (LF (.h 3)) (LF (.h 6))),
  (10006,.fb 6 true),
  (1000013,.bin .eql 3 (LF (.h 1)) (LF (.h 4)) (LF (.h 7))),
  (10007,.fb 7 false)]) (k:=⟨15,[.o (.g [.h 0,.h 1,.h 2]),.o (.g [.h 3,.h 4,.h 5])],[],.o (.c (.k (.bool false))),[]⟩) 0 (zi ⟨zb rfl,zb rfl,(ze (zh rfl)),zb rfl,zb rfl,(ze (zh rfl)),zb rfl,zb rfl,trivial⟩) ⟨e_bin (za rfl) (za rfl) (za rfl) (r_cmp (congrArg some e1)),
  e_fb (show pV (.bool v1)=_ by rw [h2]),
  e_bin (za rfl) (za rfl) (za rfl) (r_cmp (congrArg some e3)),
  e_fb (show pV (.bool v3)=_ by rw [h4]),
  trivial⟩ mixed (by kernel_rfl)) rfl rfl rfl rfl
theorem zja {w0:World} (a:Xp) (b:Xp) (N:Nat) (IH:z6 w0 N) (v1:Bool) (e1:((a.op == b.op))=v1) (h2:v1=false):Fun (KN w0) Tryd.prog 15 [.o (.g [pI a.op,pI a.n,pLs cE a.l]),.o (.g [pI b.op,pI b.n,pLs cE b.l])] (.o (.c (pV (.bool false)))):=
 zj (zl (F:=FL [pI a.op,pI a.n,pLs cE a.l,pI b.op,pI b.n,pLs cE b.l,pB v1] []) (C:=[(1000007,.bin .eql 3 (LF (.h 0)) (LF (.h 3)) (LF (.h 6))),
  (10006,.fb 6 false)]) (k:=⟨15,[.o (.g [.h 0,.h 1,.h 2]),.o (.g [.h 3,.h 4,.h 5])],[],.o (.c (.k (.bool false))),[]⟩) 0 (zi ⟨zb rfl,zb rfl,(ze (zh rfl)),zb rfl,zb rfl,(ze (zh rfl)),zb rfl,trivial⟩) ⟨e_bin (za rfl) (za rfl) (za rfl) (r_cmp (congrArg some e1)),
  e_fb (show pV (.bool v1)=_ by rw [h2]),
  trivial⟩ mixed (by kernel_rfl)) rfl rfl rfl rfl
theorem zka {w0:World} {N:Nat} (IH:z6 w0 N) (a b:Xp) (r:Bool) (hr:sameX a b=r) (hN:nodes a≤N+1) (hN1:N+1≤1000000):Fun (KN w0) Tryd.prog 15 [.o (.g [pI a.op,pI a.n,pLs cE a.l]),.o (.g [pI b.op,pI b.n,pLs cE b.l])] (.o (.c (pB r))):=by
 obtain ⟨v1,e1⟩:∃v,((a.op == b.op))=v:=⟨_,rfl⟩
 cases h2:v1 with
 | true =>
  obtain ⟨v3,e3⟩:∃v,((a.n == b.n))=v:=⟨_,rfl⟩
  cases h4:v3 with
  | true =>
   obtain ⟨v5,e5⟩:∃v,(sameL a.l b.l)=v:=⟨_,rfl⟩
   have s6:∀x∈a.l,nodes x≤N:=by exact fun x hx=>by have:=zdP (e:=a) hx;omega
   have s7:a.l.length<9223372036854775808:=by (have:=q9 a;omega)
   refine Fun.imp (zi8 a b N IH v1 v3 v5 e1 e3 e5 h2 h4 s6 s7) (fun _ _ _ h=>h) (fun v W D h=>?_)
   have r0:r=v5:=by
    rw [← hr,zai];simp_all
   rw [r0];exact h
  | false =>
   refine Fun.imp (zi9 a b N IH v1 v3 e1 e3 h2 h4) (fun _ _ _ h=>h) (fun v W D h=>?_)
   have r0:r=false:=by
    rw [← hr,zai];simp_all
   rw [r0];exact h
 | false =>
  refine Fun.imp (zja a b N IH v1 e1 h2) (fun _ _ _ h=>h) (fun v W D h=>?_)
  have r0:r=false:=by
   rw [← hr,zai];simp_all
  rw [r0];exact h
structure x_rsame_A_T where
 i:Int
def zJ:List Atom:=(.sl 0 (.o (.g [.h 0,.h 1,.h 2]))::.sl 1 (.o (.g [.h 3,.h 4,.h 5]))::.sl 2 (.o (.c (.p 0 0)))::.sl 3 (.o (.c (.p 1 0)))::.sl 5 (.o (.c (.h 11)))::.sl 6 (.o (.c (.p 0 0)))::.sl 7 (.o (.c (.h 0)))::.sl 8 (.o (.c (.p 1 0)))::.sl 9 (.o (.c (.h 3)))::.sl 10 (.o (.c (.h 6)))::.sl 11 (.o (.c (.h 6)))::.sl 12 (.o (.c (.p 0 1)))::.sl 13 (.o (.c (.h 1)))::.sl 14 (.o (.c (.p 1 1)))::.sl 15 (.o (.c (.h 4)))::.sl 16 (.o (.c (.h 7)))::.sl 17 (.o (.c (.h 7)))::.sl 18 (.o (.c (.h 7)))::.sl 19 (.o (.c (.p 0 2)))::.sl 20 (.o (.c (.h 2)))::.sl 21 (.o (.c (.h 8)))::.sl 22 (.o (.c (.p 1 2)))::.sl 23 (.o (.c (.h 5)))::.sl 24 (.o (.c (.h 9)))::.sl 25 (.o (.c (.h 10)))::.sl 26 (.o (.c (.h 10)))::.bx 0 31 [.h 0,.h 1,.h 2]::.bx 1 31 [.h 3,.h 4,.h 5]::[]:List Atom)
def qM:LoopS:=⟨4,(.sl 0 (.o (.g [.h 0,.h 1,.h 2]))::.sl 1 (.o (.g [.h 3,.h 4,.h 5]))::.sl 2 (.o (.c (.p 0 0)))::.sl 3 (.o (.c (.p 1 0)))::.sl 5 (.o (.c (.k (.int .i64 0))))::.sl 6 (.o (.c (.p 0 0)))::.sl 7 (.o (.c (.h 0)))::.sl 8 (.o (.c (.p 1 0)))::.sl 9 (.o (.c (.h 3)))::.sl 10 (.o (.c (.h 6)))::.sl 11 (.o (.c (.h 6)))::.sl 12 (.o (.c (.p 0 1)))::.sl 13 (.o (.c (.h 1)))::.sl 14 (.o (.c (.p 1 1)))::.sl 15 (.o (.c (.h 4)))::.sl 16 (.o (.c (.h 7)))::.sl 17 (.o (.c (.h 7)))::.sl 18 (.o (.c (.h 7)))::.sl 19 (.o (.c (.p 0 2)))::.sl 20 (.o (.c (.h 2)))::.sl 21 (.o (.c (.h 8)))::.sl 22 (.o (.c (.p 1 2)))::.sl 23 (.o (.c (.h 5)))::.sl 24 (.o (.c (.h 9)))::.sl 25 (.o (.c (.h 10)))::.sl 26 (.o (.c (.h 10)))::.bx 0 31 [.h 0,.h 1,.h 2]::.bx 1 31 [.h 3,.h 4,.h 5]::[]:List Atom),(.x 0),(.sl 0 (.o (.g [.h 0,.h 1,.h 2]))::.sl 1 (.o (.g [.h 3,.h 4,.h 5]))::.sl 2 (.o (.c (.p 0 0)))::.sl 3 (.o (.c (.p 1 0)))::.sl 6 (.o (.c (.p 0 0)))::.sl 7 (.o (.c (.h 0)))::.sl 8 (.o (.c (.p 1 0)))::.sl 9 (.o (.c (.h 3)))::.sl 10 (.o (.c (.h 6)))::.sl 11 (.o (.c (.h 6)))::.sl 12 (.o (.c (.p 0 1)))::.sl 13 (.o (.c (.h 1)))::.sl 14 (.o (.c (.p 1 1)))::.sl 15 (.o (.c (.h 4)))::.sl 16 (.o (.c (.h 7)))::.sl 17 (.o (.c (.h 7)))::.sl 18 (.o (.c (.h 7)))::.sl 19 (.o (.c (.p 0 2)))::.sl 20 (.o (.c (.h 2)))::.sl 21 (.o (.c (.h 8)))::.sl 22 (.o (.c (.p 1 2)))::.sl 23 (.o (.c (.h 5)))::.sl 24 (.o (.c (.h 9)))::.sl 25 (.o (.c (.h 10)))::.sl 26 (.o (.c (.h 10)))::.bx 0 31 [.h 0,.h 1,.h 2]::.bx 1 31 [.h 3,.h 4,.h 5]::[]:List Atom)⟩
theorem zbS {w0:World} (a:Xp) (b:Xp) (N:Nat) (v1:Bool) (v3:Bool) (v5:Int) (v6:Int) (v7:Bool) (IH:zV w0 N) (h2:v1=false) (h4:v3=false) (h8:v7=false) (i:Int) (v501:Int) (v502:Bool) (n504:Nat) (x505:Xp) (n508:Nat) (x509:Xp) (v512:Bool) (v514:Bool) (v516:Int) (e501:((a.l.length:Int))=v501) (e502:(decide (i<v501))=v502) (e512:(sameX x505 x509)=v512) (e514:(!v512)=v514) (e516:(IntKind.i64.wrap (i+(1:Int)))=v516) (h503:v502=true) (s506:i=(n504:Int)) (s507:a.l[n504]?=some x505) (s510:i=(n508:Int)) (s511:b.l[n508]?=some x509) (s513:nodes x505≤N) (h515:v514=false) (i':Int) (q0:(v516)=i') (R:Frm) (hR:R.pm=⟨ntOf Tryd.prog 16,[],[]⟩):Goes (KN w0) Tryd.prog R (lp Tryd.prog 16 0) (FL [pI a.op,pI a.n,pLs cE a.l,pI b.op,pI b.n,pLs cE b.l,pB v1,pB v3,pI v5,pI v6,pB v7,pI i] []) zJ .n (FL [pI a.op,pI a.n,pLs cE a.l,pI b.op,pI b.n,pLs cE b.l,pB v1,pB v3,pI v5,pI v6,pB v7,pI i'] []) zJ:=
 goes (x:=.n) (y:=.n) (Fb:=FL [pI a.op,pI a.n,pLs cE a.l,pI b.op,pI b.n,pLs cE b.l,pB v1,pB v3,pI v5,pI v6,pB v7,pI i,pI v501,pB v502,pP (cE x505),pI x505.op,pI x505.n,pLs cE x505.l,pP (cE x509),pI x509.op,pI x509.n,pLs cE x509.l,pB v512,pB v514,pI v516] []) (stb:=zJ) (tl:=(.sl 0 (.o (.g [.h 0,.h 1,.h 2]))::.sl 1 (.o (.g [.h 3,.h 4,.h 5]))::.sl 2 (.o (.c (.p 0 0)))::.sl 3 (.o (.c (.p 1 0)))::.sl 5 (.o (.c (.h 24)))::.sl 6 (.o (.c (.p 0 0)))::.sl 7 (.o (.c (.h 0)))::.sl 8 (.o (.c (.p 1 0)))::.sl 9 (.o (.c (.h 3)))::.sl 10 (.o (.c (.h 6)))::.sl 11 (.o (.c (.h 6)))::.sl 12 (.o (.c (.p 0 1)))::.sl 13 (.o (.c (.h 1)))::.sl 14 (.o (.c (.p 1 1)))::.sl 15 (.o (.c (.h 4)))::.sl 16 (.o (.c (.h 7)))::.sl 17 (.o (.c (.h 7)))::.sl 18 (.o (.c (.h 7)))::.sl 19 (.o (.c (.p 0 2)))::.sl 20 (.o (.c (.h 2)))::.sl 21 (.o (.c (.h 8)))::.sl 22 (.o (.c (.p 1 2)))::.sl 23 (.o (.c (.h 5)))::.sl 24 (.o (.c (.h 9)))::.sl 25 (.o (.c (.h 10)))::.sl 26 (.o (.c (.h 10)))::.bx 0 31 [.h 0,.h 1,.h 2]::.bx 1 31 [.h 3,.h 4,.h 5]::[]:List Atom)) (C:=((10006,.fb 6 false) ::
  (10007,.fb 7 false) ::
  (10010,.fb 10 false) ::
  (1005003,.op (.len [28] 3) [LF (.h 2)] [] (LF (.h 12))) ::
  (1005004,.bin .lss 3 (LF (.h 11)) (LF (.h 12)) (LF (.h 13))) ::
  (10013,.fb 13 true) ::
  (1005008,.op (.ia 28) [LF (.h 2),LF (.h 11)] [] (LF (.h 14))) ::
  (1005009,.op (.ld 31) [LF (.h 14)] [] (.o (.g [.h 15,.h 16,.h 17]))) ::
  (1005013,.op (.ia 28) [LF (.h 5),LF (.h 11)] [] (LF (.h 18))) ::
  (1005014,.op (.ld 31) [LF (.h 18)] [] (.o (.g [.h 19,.h 20,.h 21]))) ::
  (1005015,.call ⟨16,[.o (.g [.h 15,.h 16,.h 17]),.o (.g [.h 19,.h 20,.h 21])],[],.o (.c (.h 22)),[]⟩) ::
  (1005016,.un .not (LF (.h 22)) (LF (.h 23))) ::
  (10023,.fb 23 false) ::
  (1005018,.bin .add 3 (LF (.h 11)) (LF (.k (.int .i64 1))) (LF (.h 24))) ::
  []:List (Nat×Ent))) (H:=.no) 5000 (zipA.imp ⟨z_g ⟨fun _ _ _ h=>h,fun _ _ _ h=>h,fun _ _ _ h=>h,trivial⟩,z_g ⟨fun _ _ _ h=>h,fun _ _ _ h=>h,fun _ _ _ h=>h,trivial⟩,z_c (fun _ _ _ h=>h),z_c (fun _ _ _ h=>h),z_c (fun _ _ _ h=>h),z_c (fun _ _ _ h=>h),z_c (fun _ _ _ h=>h),z_c (fun _ _ _ h=>h),z_c (fun _ _ _ h=>h),z_c (fun _ _ _ h=>h),z_c (fun _ _ _ h=>h),z_c (fun _ _ _ h=>h),z_c (fun _ _ _ h=>h),z_c (fun _ _ _ h=>h),z_c (fun _ _ _ h=>h),z_c (fun _ _ _ h=>h),z_c (fun _ _ _ h=>h),z_c (fun _ _ _ h=>h),z_c (fun _ _ _ h=>h),z_c (fun _ _ _ h=>h),z_c (fun _ _ _ h=>h),z_c (fun _ _ _ h=>h),z_c (fun _ _ _ h=>h),z_c (fun _ _ _ h=>h),z_c (fun _ _ _ h=>h),z_c (fun _ _ _ h=>h),z_b ⟨fun _ _ _ h=>h,fun _ _ _ h=>h,fun _ _ _ h=>h,trivial⟩,z_b ⟨fun _ _ _ h=>h,fun _ _ _ h=>h,fun _ _ _ h=>h,trivial⟩,trivial⟩) (zi ⟨zb rfl,zb rfl,(ze (zh rfl)),zb rfl,zb rfl,(ze (zh rfl)),zb rfl,zb rfl,zb rfl,zb rfl,zb rfl,zb rfl,zb rfl,zb rfl,(zu ((zh rfl) _)),zb rfl,zb rfl,(ze (zh rfl)),(zu ((zh rfl) _)),zb rfl,zb rfl,(ze (zh rfl)),zb rfl,zb rfl,zb rfl,trivial⟩) ⟨e_fb (show pV (.bool v1)=_ by rw [h2]),
  e_fb (show pV (.bool v3)=_ by rw [h4]),
  e_fb (show pV (.bool v7)=_ by rw [h8]),
  zm (E:=31) (by kernel_rfl) (zd rfl) (za (by rw [← e501];rfl)),
  e_bin (za rfl) (za rfl) (za rfl) (r_cmp (congrArg some e502)),
  e_fb (show pV (.bool v502)=_ by rw [h503]),
  e_iaL (E:=31) (z:=3) zp (by kernel_rfl) (by kernel_rfl) (zd rfl) (za rfl) s506 s507 (zd rfl),
  e_ldG (by kernel_rfl) (by kernel_rfl) (zd rfl) (cE_eq _).symm rfl (zp _),
  e_iaL (E:=31) (z:=3) zp (by kernel_rfl) (by kernel_rfl) (zd rfl) (za rfl) s510 s511 (zd rfl),
  e_ldG (by kernel_rfl) (by kernel_rfl) (zd rfl) (cE_eq _).symm rfl (zp _),
  zg (IH x505 x509 v512 e512 s513) rfl rfl rfl rfl,
  e_un (za rfl) (za rfl) (fun W=>by rw [← e514];exact r_not W),
  e_fb (show pV (.bool v514)=_ by rw [h515]),
  e_bin (za rfl) zc (za rfl) (r_ar (congrArg some e516)),
  trivial⟩ mixed hR trivial (fun _ _ _ hs=>by cases hs) (by kernel_rfl:qk (KN w0) Tryd.prog _ .no ⟨ntOf Tryd.prog 16,[],[]⟩ (lp Tryd.prog 16 0) 5000 zJ .n (.sl 0 (.o (.g [.h 0,.h 1,.h 2]))::.sl 1 (.o (.g [.h 3,.h 4,.h 5]))::.sl 2 (.o (.c (.p 0 0)))::.sl 3 (.o (.c (.p 1 0)))::.sl 5 (.o (.c (.h 24)))::.sl 6 (.o (.c (.p 0 0)))::.sl 7 (.o (.c (.h 0)))::.sl 8 (.o (.c (.p 1 0)))::.sl 9 (.o (.c (.h 3)))::.sl 10 (.o (.c (.h 6)))::.sl 11 (.o (.c (.h 6)))::.sl 12 (.o (.c (.p 0 1)))::.sl 13 (.o (.c (.h 1)))::.sl 14 (.o (.c (.p 1 1)))::.sl 15 (.o (.c (.h 4)))::.sl 16 (.o (.c (.h 7)))::.sl 17 (.o (.c (.h 7)))::.sl 18 (.o (.c (.h 7)))::.sl 19 (.o (.c (.p 0 2)))::.sl 20 (.o (.c (.h 2)))::.sl 21 (.o (.c (.h 8)))::.sl 22 (.o (.c (.p 1 2)))::.sl 23 (.o (.c (.h 5)))::.sl 24 (.o (.c (.h 9)))::.sl 25 (.o (.c (.h 10)))::.sl 26 (.o (.c (.h 10)))::.bx 0 31 [.h 0,.h 1,.h 2]::.bx 1 31 [.h 3,.h 4,.h 5]::[]:List Atom)=true) rfl (zipA.imp ⟨z_g ⟨fun _ _ _ h=>h,fun _ _ _ h=>h,fun _ _ _ h=>h,trivial⟩,z_g ⟨fun _ _ _ h=>h,fun _ _ _ h=>h,fun _ _ _ h=>h,trivial⟩,z_c (fun _ _ _ h=>h),z_c (fun _ _ _ h=>h),z_c (fun β v W h=>(zd rfl β v W).2 (by rw [← q0];exact h)),z_c (fun _ _ _ h=>h),z_c (fun _ _ _ h=>h),z_c (fun _ _ _ h=>h),z_c (fun _ _ _ h=>h),z_c (fun _ _ _ h=>h),z_c (fun _ _ _ h=>h),z_c (fun _ _ _ h=>h),z_c (fun _ _ _ h=>h),z_c (fun _ _ _ h=>h),z_c (fun _ _ _ h=>h),z_c (fun _ _ _ h=>h),z_c (fun _ _ _ h=>h),z_c (fun _ _ _ h=>h),z_c (fun _ _ _ h=>h),z_c (fun _ _ _ h=>h),z_c (fun _ _ _ h=>h),z_c (fun _ _ _ h=>h),z_c (fun _ _ _ h=>h),z_c (fun _ _ _ h=>h),z_c (fun _ _ _ h=>h),z_c (fun _ _ _ h=>h),z_b ⟨fun _ _ _ h=>h,fun _ _ _ h=>h,fun _ _ _ h=>h,trivial⟩,z_b ⟨fun _ _ _ h=>h,fun _ _ _ h=>h,fun _ _ _ h=>h,trivial⟩,trivial⟩)
theorem zez {w0:World} (a:Xp) (b:Xp) (N:Nat) (v1:Bool) (v3:Bool) (v5:Int) (v6:Int) (v7:Bool) (IH:zV w0 N) (h2:v1=false) (h4:v3=false) (h8:v7=false) (i:Int) (v501:Int) (v502:Bool) (e501:((a.l.length:Int))=v501) (e502:(decide (i<v501))=v502) (h503:v502=false) (F:Fact) (u0:F.c 0=pI a.op) (u1:F.c 1=pI a.n) (u2:F.c 2=pLs cE a.l) (u3:F.c 3=pI b.op) (u4:F.c 4=pI b.n) (u5:F.c 5=pLs cE b.l) (u6:F.c 6=pB v1) (u7:F.c 7=pB v3) (u8:F.c 8=pI v5) (u9:F.c 9=pI v6) (u10:F.c 10=pB v7) (R:Frm) (hR:R.pm=⟨ntOf Tryd.prog 16,[],[]⟩):Goes (KN w0) Tryd.prog R (lp Tryd.prog 16 0) (FL [pI a.op,pI a.n,pLs cE a.l,pI b.op,pI b.n,pLs cE b.l,pB v1,pB v3,pI v5,pI v6,pB v7,pI i] []) zJ (.x 0) F qM.out:=
 goes (x:=(.x 0)) (y:=(.x 0)) (Fb:=FL [pI a.op,pI a.n,pLs cE a.l,pI b.op,pI b.n,pLs cE b.l,pB v1,pB v3,pI v5,pI v6,pB v7,pI i,pI v501,pB v502] []) (stb:=zJ) (tl:=(.sl 0 (.o (.g [.h 0,.h 1,.h 2]))::.sl 1 (.o (.g [.h 3,.h 4,.h 5]))::.sl 2 (.o (.c (.p 0 0)))::.sl 3 (.o (.c (.p 1 0)))::.sl 6 (.o (.c (.p 0 0)))::.sl 7 (.o (.c (.h 0)))::.sl 8 (.o (.c (.p 1 0)))::.sl 9 (.o (.c (.h 3)))::.sl 10 (.o (.c (.h 6)))::.sl 11 (.o (.c (.h 6)))::.sl 12 (.o (.c (.p 0 1)))::.sl 13 (.o (.c (.h 1)))::.sl 14 (.o (.c (.p 1 1)))::.sl 15 (.o (.c (.h 4)))::.sl 16 (.o (.c (.h 7)))::.sl 17 (.o (.c (.h 7)))::.sl 18 (.o (.c (.h 7)))::.sl 19 (.o (.c (.p 0 2)))::.sl 20 (.o (.c (.h 2)))::.sl 21 (.o (.c (.h 8)))::.sl 22 (.o (.c (.p 1 2)))::.sl 23 (.o (.c (.h 5)))::.sl 24 (.o (.c (.h 9)))::.sl 25 (.o (.c (.h 10)))::.sl 26 (.o (.c (.h 10)))::.bx 0 31 [.h 0,.h 1,.h 2]::.bx 1 31 [.h 3,.h 4,.h 5]::[]:List Atom)) (C:=((10006,.fb 6 false) ::
  (10007,.fb 7 false) ::
  (10010,.fb 10 false) ::
  (1005003,.op (.len [28] 3) [LF (.h 2)] [] (LF (.h 12))) ::
  (1005004,.bin .lss 3 (LF (.h 11)) (LF (.h 12)) (LF (.h 13))) ::
  (10013,.fb 13 false) ::
  []:List (Nat×Ent))) (H:=.no) 5000 (zipA.imp ⟨z_g ⟨fun _ _ _ h=>h,fun _ _ _ h=>h,fun _ _ _ h=>h,trivial⟩,z_g ⟨fun _ _ _ h=>h,fun _ _ _ h=>h,fun _ _ _ h=>h,trivial⟩,z_c (fun _ _ _ h=>h),z_c (fun _ _ _ h=>h),z_c (fun _ _ _ h=>h),z_c (fun _ _ _ h=>h),z_c (fun _ _ _ h=>h),z_c (fun _ _ _ h=>h),z_c (fun _ _ _ h=>h),z_c (fun _ _ _ h=>h),z_c (fun _ _ _ h=>h),z_c (fun _ _ _ h=>h),z_c (fun _ _ _ h=>h),z_c (fun _ _ _ h=>h),z_c (fun _ _ _ h=>h),z_c (fun _ _ _ h=>h),z_c (fun _ _ _ h=>h),z_c (fun _ _ _ h=>h),z_c (fun _ _ _ h=>h),z_c (fun _ _ _ h=>h),z_c (fun _ _ _ h=>h),z_c (fun _ _ _ h=>h),z_c (fun _ _ _ h=>h),z_c (fun _ _ _ h=>h),z_c (fun _ _ _ h=>h),z_c (fun _ _ _ h=>h),z_b ⟨fun _ _ _ h=>h,fun _ _ _ h=>h,fun _ _ _ h=>h,trivial⟩,z_b ⟨fun _ _ _ h=>h,fun _ _ _ h=>h,fun _ _ _ h=>h,trivial⟩,trivial⟩) (zi ⟨zb rfl,zb rfl,(ze (zh rfl)),zb rfl,zb rfl,(ze (zh rfl)),zb rfl,zb rfl,zb rfl,zb rfl,zb rfl,zb rfl,zb rfl,zb rfl,trivial⟩) ⟨e_fb (show pV (.bool v1)=_ by rw [h2]),
  e_fb (show pV (.bool v3)=_ by rw [h4]),
  e_fb (show pV (.bool v7)=_ by rw [h8]),
  zm (E:=31) (by kernel_rfl) (zd rfl) (za (by rw [← e501];rfl)),
  e_bin (za rfl) (za rfl) (za rfl) (r_cmp (congrArg some e502)),
  e_fb (show pV (.bool v502)=_ by rw [h503]),
  trivial⟩ mixed hR trivial (fun _ _ _ hs=>by cases hs) (by kernel_rfl:qk (KN w0) Tryd.prog _ .no ⟨ntOf Tryd.prog 16,[],[]⟩ (lp Tryd.prog 16 0) 5000 zJ (.x 0) (.sl 0 (.o (.g [.h 0,.h 1,.h 2]))::.sl 1 (.o (.g [.h 3,.h 4,.h 5]))::.sl 2 (.o (.c (.p 0 0)))::.sl 3 (.o (.c (.p 1 0)))::.sl 6 (.o (.c (.p 0 0)))::.sl 7 (.o (.c (.h 0)))::.sl 8 (.o (.c (.p 1 0)))::.sl 9 (.o (.c (.h 3)))::.sl 10 (.o (.c (.h 6)))::.sl 11 (.o (.c (.h 6)))::.sl 12 (.o (.c (.p 0 1)))::.sl 13 (.o (.c (.h 1)))::.sl 14 (.o (.c (.p 1 1)))::.sl 15 (.o (.c (.h 4)))::.sl 16 (.o (.c (.h 7)))::.sl 17 (.o (.c (.h 7)))::.sl 18 (.o (.c (.h 7)))::.sl 19 (.o (.c (.p 0 2)))::.sl 20 (.o (.c (.h 2)))::.sl 21 (.o (.c (.h 8)))::.sl 22 (.o (.c (.p 1 2)))::.sl 23 (.o (.c (.h 5)))::.sl 24 (.o (.c (.h 9)))::.sl 25 (.o (.c (.h 10)))::.sl 26 (.o (.c (.h 10)))::.bx 0 31 [.h 0,.h 1,.h 2]::.bx 1 31 [.h 3,.h 4,.h 5]::[]:List Atom)=true) rfl (zipA.imp ⟨z_g ⟨fun β v W h=>(zd u0 β v W).2 h,fun β v W h=>(zd u1 β v W).2 h,fun β v W h=>(zd u2 β v W).2 h,trivial⟩,z_g ⟨fun β v W h=>(zd u3 β v W).2 h,fun β v W h=>(zd u4 β v W).2 h,fun β v W h=>(zd u5 β v W).2 h,trivial⟩,z_c (fun _ _ _ h=>h),z_c (fun _ _ _ h=>h),z_c (fun _ _ _ h=>h),z_c (fun β v W h=>(zd u0 β v W).2 h),z_c (fun _ _ _ h=>h),z_c (fun β v W h=>(zd u3 β v W).2 h),z_c (fun β v W h=>(zd u6 β v W).2 h),z_c (fun β v W h=>(zd u6 β v W).2 h),z_c (fun _ _ _ h=>h),z_c (fun β v W h=>(zd u1 β v W).2 h),z_c (fun _ _ _ h=>h),z_c (fun β v W h=>(zd u4 β v W).2 h),z_c (fun β v W h=>(zd u7 β v W).2 h),z_c (fun β v W h=>(zd u7 β v W).2 h),z_c (fun β v W h=>(zd u7 β v W).2 h),z_c (fun _ _ _ h=>h),z_c (fun β v W h=>(zd u2 β v W).2 h),z_c (fun β v W h=>(zd u8 β v W).2 h),z_c (fun _ _ _ h=>h),z_c (fun β v W h=>(zd u5 β v W).2 h),z_c (fun β v W h=>(zd u9 β v W).2 h),z_c (fun β v W h=>(zd u10 β v W).2 h),z_c (fun β v W h=>(zd u10 β v W).2 h),z_b ⟨fun β v W h=>(zd u0 β v W).2 h,fun β v W h=>(zd u1 β v W).2 h,fun β v W h=>(zd u2 β v W).2 h,trivial⟩,z_b ⟨fun β v W h=>(zd u3 β v W).2 h,fun β v W h=>(zd u4 β v W).2 h,fun β v W h=>(zd u5 β v W).2 h,trivial⟩,trivial⟩)
def zfK (a:Xp) (b:Xp) (N:Nat) (v1:Bool) (v3:Bool) (v5:Int) (v6:Int) (v7:Bool) (t:x_rsame_A_T):Prop:=(∃(v501:Int),∃(v502:Bool),(((a.l.length:Int))=v501)∧((decide (t.i<v501))=v502)∧(v502=false)∧True)
def zcv (a:Xp) (b:Xp) (N:Nat) (v1:Bool) (v3:Bool) (v5:Int) (v6:Int) (v7:Bool) (t t':x_rsame_A_T):Prop:=(∃(v501:Int),∃(v502:Bool),∃(n504:Nat),∃(x505:Xp),∃(n508:Nat),∃(x509:Xp),∃(v512:Bool),∃(v514:Bool),∃(v516:Int),(((a.l.length:Int))=v501)∧((decide (t.i<v501))=v502)∧((sameX x505 x509)=v512)∧((!v512)=v514)∧((IntKind.i64.wrap (t.i+(1:Int)))=v516)∧(v502=true)∧(t.i=(n504:Int))∧(a.l[n504]?=some x505)∧(t.i=(n508:Int))∧(b.l[n508]?=some x509)∧(nodes x505≤N)∧(v514=false)∧((v516)=t'.i)∧True)
theorem zcF {w0:World} (a:Xp) (b:Xp) (N:Nat) (v1:Bool) (v3:Bool) (v5:Int) (v6:Int) (v7:Bool) (IH:zV w0 N) (h2:v1=false) (h4:v3=false) (h8:v7=false) {F:Fact} (u0:F.c 0=pI a.op) (u1:F.c 1=pI a.n) (u2:F.c 2=pLs cE a.l) (u3:F.c 3=pI b.op) (u4:F.c 4=pI b.n) (u5:F.c 5=pLs cE b.l) (u6:F.c 6=pB v1) (u7:F.c 7=pB v3) (u8:F.c 8=pI v5) (u9:F.c 9=pI v6) (u10:F.c 10=pB v7) (R:Frm) (hR:R.pm=⟨ntOf Tryd.prog 16,[],[]⟩) (J:x_rsame_A_T→Prop) (m:x_rsame_A_T→Nat) (hJ:J { i:=(0:Int) }) (rounds:∀t,J t→zfK a b N v1 v3 v5 v6 v7 t ∨∃t',zcv a b N v1 v3 v5 v6 v7 t t'∧m t'<m t∧J t'):zt (KN w0) Tryd.prog F R qM (lp Tryd.prog 16 0):=by
 refine qg (T:=x_rsame_A_T) (fun t=>FL [pI a.op,pI a.n,pLs cE a.l,pI b.op,pI b.n,pLs cE b.l,pB v1,pB v3,pI v5,pI v6,pB v7,pI t.i] []) J m { i:=(0:Int) } zJ hJ (zipA.imp ⟨z_g ⟨fun β v W h=>(zd u0 β v W).1 h,fun β v W h=>(zd u1 β v W).1 h,fun β v W h=>(zd u2 β v W).1 h,trivial⟩,z_g ⟨fun β v W h=>(zd u3 β v W).1 h,fun β v W h=>(zd u4 β v W).1 h,fun β v W h=>(zd u5 β v W).1 h,trivial⟩,z_c (fun _ _ _ h=>h),z_c (fun _ _ _ h=>h),z_c (fun _ _ _ h=>h),z_c (fun _ _ _ h=>h),z_c (fun β v W h=>(zd u0 β v W).1 h),z_c (fun _ _ _ h=>h),z_c (fun β v W h=>(zd u3 β v W).1 h),z_c (fun β v W h=>(zd u6 β v W).1 h),z_c (fun β v W h=>(zd u6 β v W).1 h),z_c (fun _ _ _ h=>h),z_c (fun β v W h=>(zd u1 β v W).1 h),z_c (fun _ _ _ h=>h),z_c (fun β v W h=>(zd u4 β v W).1 h),z_c (fun β v W h=>(zd u7 β v W).1 h),z_c (fun β v W h=>(zd u7 β v W).1 h),z_c (fun β v W h=>(zd u7 β v W).1 h),z_c (fun _ _ _ h=>h),z_c (fun β v W h=>(zd u2 β v W).1 h),z_c (fun β v W h=>(zd u8 β v W).1 h),z_c (fun _ _ _ h=>h),z_c (fun β v W h=>(zd u5 β v W).1 h),z_c (fun β v W h=>(zd u9 β v W).1 h),z_c (fun β v W h=>(zd u10 β v W).1 h),z_c (fun β v W h=>(zd u10 β v W).1 h),z_b ⟨fun β v W h=>(zd u0 β v W).1 h,fun β v W h=>(zd u1 β v W).1 h,fun β v W h=>(zd u2 β v W).1 h,trivial⟩,z_b ⟨fun β v W h=>(zd u3 β v W).1 h,fun β v W h=>(zd u4 β v W).1 h,fun β v W h=>(zd u5 β v W).1 h,trivial⟩,trivial⟩) rfl fun t ht=>?_
 rcases rounds t ht with hz_ | ⟨t',hz_,hm_,hj_⟩
 ·refine .inl ?_
  rcases hz_ with ⟨v501,v502,e501,e502,h503,_⟩
  ·exact zez  a b N v1 v3 v5 v6 v7 IH h2 h4 h8 t.i v501 v502 e501 e502 h503  F u0 u1 u2 u3 u4 u5 u6 u7 u8 u9 u10  R hR
 ·refine .inr ⟨t',hm_,hj_,?_⟩
  rcases hz_ with ⟨v501,v502,n504,x505,n508,x509,v512,v514,v516,e501,e502,e512,e514,e516,h503,s506,s507,s510,s511,s513,h515,q0,_⟩
  ·exact zbS  a b N v1 v3 v5 v6 v7 IH h2 h4 h8 t.i v501 v502 n504 x505 n508 x509 v512 v514 v516 e501 e502 e512 e514 e516 h503 s506 s507 s510 s511 s513 h515 t'.i q0 R hR
theorem zey {w0:World} (a:Xp) (b:Xp) (N:Nat) (v1:Bool) (v3:Bool) (v5:Int) (v6:Int) (v7:Bool) (IH:zV w0 N) (h2:v1=false) (h4:v3=false) (h8:v7=false) {F:Fact} (u0:F.c 0=pI a.op) (u1:F.c 1=pI a.n) (u2:F.c 2=pLs cE a.l) (u3:F.c 3=pI b.op) (u4:F.c 4=pI b.n) (u5:F.c 5=pLs cE b.l) (u6:F.c 6=pB v1) (u7:F.c 7=pB v3) (u8:F.c 8=pI v5) (u9:F.c 9=pI v6) (u10:F.c 10=pB v7) (R:Frm) (hR:R.pm=⟨ntOf Tryd.prog 16,[],[]⟩) (hb:a.l.length<9223372036854775808) (hlm:a.l.length=b.l.length) (hN:nodes a≤N+1) (hO:sameL a.l b.l=true):zt (KN w0) Tryd.prog F R qM (lp Tryd.prog 16 0):=by
 refine zcF  a b N v1 v3 v5 v6 v7 IH h2 h4 h8  u0 u1 u2 u3 u4 u5 u6 u7 u8 u9 u10 R hR (fun ⟨i⟩=>∃k:Nat,i=(k:Int)∧k≤a.l.length∧sameL (a.l.drop k) (b.l.drop k)=true) (fun ⟨i⟩=>((a.l.length:Int) - i).toNat) ⟨0,rfl,Nat.zero_le _,by rw [List.drop_zero,List.drop_zero];exact hO⟩ fun t hJ=>?_
 obtain ⟨i⟩:=t
 dsimp only at hJ
 obtain ⟨k,hi,hk,hs⟩:=hJ
 obtain ⟨v501,e501⟩:∃v,((a.l.length:Int))=v:=⟨_,rfl⟩
 obtain ⟨v502,e502⟩:∃v,(decide (i<v501))=v:=⟨_,rfl⟩
 cases h503:v502 with
 | true =>
  obtain ⟨n504,x505,s506,s507⟩:∃(n504:Nat) (x505:Xp),i=(n504:Int)∧a.l[n504]?=some x505:=by (have dh503:=of_decide_eq_true (e502.trans h503);have hz:=e501;have hlt:k<a.l.length:=(by omega);exact ⟨k,_,hi,List.getElem?_eq_getElem hlt⟩)
  obtain ⟨n508,x509,s510,s511⟩:∃(n508:Nat) (x509:Xp),i=(n508:Int)∧b.l[n508]?=some x509:=by (have dh503:=of_decide_eq_true (e502.trans h503);have hz:=e501;have hlt:k<b.l.length:=(by omega);exact ⟨k,_,hi,List.getElem?_eq_getElem hlt⟩)
  obtain ⟨v512,e512⟩:∃v,(sameX x505 x509)=v:=⟨_,rfl⟩
  have s513:nodes x505≤N:=by exact zC hN s507
  obtain ⟨v514,e514⟩:∃v,(!v512)=v:=⟨_,rfl⟩
  cases h515:v514 with
  | true =>
   exfalso
   have dh503:=of_decide_eq_true (e502.trans h503);have hz:=e501;have hk1:n504=k:=(by omega);have hk2:n504=n508:=(by omega);subst hk1;subst hk2;have hd:=q4 s507 s511;rw [e512,show v512=false from (by simp_all)] at hd;rw [hs] at hd;cases hd
  | false =>
   obtain ⟨v516,e516⟩:∃v,(IntKind.i64.wrap (i+(1:Int)))=v:=⟨_,rfl⟩
   refine .inr ⟨⟨v516⟩,⟨v501,v502,n504,x505,n508,x509,v512,v514,v516,e501,e502,e512,e514,e516,h503,s506,s507,s510,s511,s513,h515,rfl,trivial⟩,?_,?_⟩
   all_goals (have dh503:=of_decide_eq_true (e502.trans h503);have hz:=e501;have hk1:n504=k:=(by omega);have hk2:n504=n508:=(by omega);subst hk1;subst hk2;have hd:=q4 s507 s511;rw [e512,show v512=true from (by simp_all)] at hd;have hlt:n504<a.l.length:=(List.getElem?_eq_some_iff.1 s507).1;have x3:v516=((n504+1:Nat):Int):=(by rw [← e516,hi,wri (by omega)];omega))
   ·show ((a.l.length:Int) - v516).toNat<((a.l.length:Int) - i).toNat
    omega
   ·exact ⟨n504+1,x3,by omega,by rw [hs,Bool.true_and] at hd;exact hd.symm⟩
 | false =>
  refine .inl (⟨v501,v502,e501,e502,h503,trivial⟩)
def qN:LoopS:=⟨4,(.sl 0 (.o (.g [.h 0,.h 1,.h 2]))::.sl 1 (.o (.g [.h 3,.h 4,.h 5]))::.sl 2 (.o (.c (.p 0 0)))::.sl 3 (.o (.c (.p 1 0)))::.sl 5 (.o (.c (.k (.int .i64 0))))::.sl 6 (.o (.c (.p 0 0)))::.sl 7 (.o (.c (.h 0)))::.sl 8 (.o (.c (.p 1 0)))::.sl 9 (.o (.c (.h 3)))::.sl 10 (.o (.c (.h 6)))::.sl 11 (.o (.c (.h 6)))::.sl 12 (.o (.c (.p 0 1)))::.sl 13 (.o (.c (.h 1)))::.sl 14 (.o (.c (.p 1 1)))::.sl 15 (.o (.c (.h 4)))::.sl 16 (.o (.c (.h 7)))::.sl 17 (.o (.c (.h 7)))::.sl 18 (.o (.c (.h 7)))::.sl 19 (.o (.c (.p 0 2)))::.sl 20 (.o (.c (.h 2)))::.sl 21 (.o (.c (.h 8)))::.sl 22 (.o (.c (.p 1 2)))::.sl 23 (.o (.c (.h 5)))::.sl 24 (.o (.c (.h 9)))::.sl 25 (.o (.c (.h 10)))::.sl 26 (.o (.c (.h 10)))::.bx 0 31 [.h 0,.h 1,.h 2]::.bx 1 31 [.h 3,.h 4,.h 5]::[]:List Atom),.r,(.sl 0 (.o (.g [.h 0,.h 1,.h 2]))::.sl 1 (.o (.g [.h 3,.h 4,.h 5]))::.sl 2 (.o (.c (.p 0 0)))::.sl 3 (.o (.c (.p 1 0)))::.sl 4 (.o (.c (.h 11)))::.sl 6 (.o (.c (.p 0 0)))::.sl 7 (.o (.c (.h 0)))::.sl 8 (.o (.c (.p 1 0)))::.sl 9 (.o (.c (.h 3)))::.sl 10 (.o (.c (.h 6)))::.sl 11 (.o (.c (.h 6)))::.sl 12 (.o (.c (.p 0 1)))::.sl 13 (.o (.c (.h 1)))::.sl 14 (.o (.c (.p 1 1)))::.sl 15 (.o (.c (.h 4)))::.sl 16 (.o (.c (.h 7)))::.sl 17 (.o (.c (.h 7)))::.sl 18 (.o (.c (.h 7)))::.sl 19 (.o (.c (.p 0 2)))::.sl 20 (.o (.c (.h 2)))::.sl 21 (.o (.c (.h 8)))::.sl 22 (.o (.c (.p 1 2)))::.sl 23 (.o (.c (.h 5)))::.sl 24 (.o (.c (.h 9)))::.sl 25 (.o (.c (.h 10)))::.sl 26 (.o (.c (.h 10)))::.bx 0 31 [.h 0,.h 1,.h 2]::.bx 1 31 [.h 3,.h 4,.h 5]::[]:List Atom)⟩
theorem zeB {w0:World} (a:Xp) (b:Xp) (N:Nat) (v1:Bool) (v3:Bool) (v5:Int) (v6:Int) (v7:Bool) (IH:zV w0 N) (h2:v1=false) (h4:v3=false) (h8:v7=false) (i:Int) (v501:Int) (v502:Bool) (n504:Nat) (x505:Xp) (n508:Nat) (x509:Xp) (v512:Bool) (v514:Bool) (e501:((a.l.length:Int))=v501) (e502:(decide (i<v501))=v502) (e512:(sameX x505 x509)=v512) (e514:(!v512)=v514) (h503:v502=true) (s506:i=(n504:Int)) (s507:a.l[n504]?=some x505) (s510:i=(n508:Int)) (s511:b.l[n508]?=some x509) (s513:nodes x505≤N) (h515:v514=true) (o:Bool) (F:Fact) (u0:F.c 0=pI a.op) (u1:F.c 1=pI a.n) (u2:F.c 2=pLs cE a.l) (u3:F.c 3=pI b.op) (u4:F.c 4=pI b.n) (u5:F.c 5=pLs cE b.l) (u6:F.c 6=pB v1) (u7:F.c 7=pB v3) (u8:F.c 8=pI v5) (u9:F.c 9=pI v6) (u10:F.c 10=pB v7) (u11:F.c 11=pB o) (q0:(false)=o) (R:Frm) (hR:R.pm=⟨ntOf Tryd.prog 16,[],[]⟩):Goes (KN w0) Tryd.prog R (lp Tryd.prog 16 0) (FL [pI a.op,pI a.n,pLs cE a.l,pI b.op,pI b.n,pLs cE b.l,pB v1,pB v3,pI v5,pI v6,pB v7,pI i] []) zJ .r F qN.out:=
 goes (x:=.r) (y:=.r) (Fb:=FL [pI a.op,pI a.n,pLs cE a.l,pI b.op,pI b.n,pLs cE b.l,pB v1,pB v3,pI v5,pI v6,pB v7,pI i,pI v501,pB v502,pP (cE x505),pI x505.op,pI x505.n,pLs cE x505.l,pP (cE x509),pI x509.op,pI x509.n,pLs cE x509.l,pB v512,pB v514] []) (stb:=zJ) (tl:=(.sl 0 (.o (.g [.h 0,.h 1,.h 2]))::.sl 1 (.o (.g [.h 3,.h 4,.h 5]))::.sl 2 (.o (.c (.p 0 0)))::.sl 3 (.o (.c (.p 1 0)))::.sl 4 (.o (.c (.k (.bool false))))::.sl 6 (.o (.c (.p 0 0)))::.sl 7 (.o (.c (.h 0)))::.sl 8 (.o (.c (.p 1 0)))::.sl 9 (.o (.c (.h 3)))::.sl 10 (.o (.c (.h 6)))::.sl 11 (.o (.c (.h 6)))::.sl 12 (.o (.c (.p 0 1)))::.sl 13 (.o (.c (.h 1)))::.sl 14 (.o (.c (.p 1 1)))::.sl 15 (.o (.c (.h 4)))::.sl 16 (.o (.c (.h 7)))::.sl 17 (.o (.c (.h 7)))::.sl 18 (.o (.c (.h 7)))::.sl 19 (.o (.c (.p 0 2)))::.sl 20 (.o (.c (.h 2)))::.sl 21 (.o (.c (.h 8)))::.sl 22 (.o (.c (.p 1 2)))::.sl 23 (.o (.c (.h 5)))::.sl 24 (.o (.c (.h 9)))::.sl 25 (.o (.c (.h 10)))::.sl 26 (.o (.c (.h 10)))::.bx 0 31 [.h 0,.h 1,.h 2]::.bx 1 31 [.h 3,.h 4,.h 5]::[]:List Atom)) (C:=((10006,.fb 6 false) ::
  (10007,.fb 7 false) ::
  (10010,.fb 10 false) ::
  (1005003,.op (.len [28] 3) [LF (.h 2)] [] (LF (.h 12))) ::
  (1005004,.bin .lss 3 (LF (.h 11)) (LF (.h 12)) (LF (.h 13))) ::
  (10013,.fb 13 true) ::
  (1005008,.op (.ia 28) [LF (.h 2),LF (.h 11)] [] (LF (.h 14))) ::
  (1005009,.op (.ld 31) [LF (.h 14)] [] (.o (.g [.h 15,.h 16,.h 17]))) ::
  (1005013,.op (.ia 28) [LF (.h 5),LF (.h 11)] [] (LF (.h 18))) ::
  (1005014,.op (.ld 31) [LF (.h 18)] [] (.o (.g [.h 19,.h 20,.h 21]))) ::
  (1005015,.call ⟨16,[.o (.g [.h 15,.h 16,.h 17]),.o (.g [.h 19,.h 20,.h 21])],[],.o (.c (.h 22)),[]⟩) ::
  (1005016,.un .not (LF (.h 22)) (LF (.h 23))) ::
  (10023,.fb 23 true) ::
  []:List (Nat×Ent))) (H:=.no) 5000 (zipA.imp ⟨z_g ⟨fun _ _ _ h=>h,fun _ _ _ h=>h,fun _ _ _ h=>h,trivial⟩,z_g ⟨fun _ _ _ h=>h,fun _ _ _ h=>h,fun _ _ _ h=>h,trivial⟩,z_c (fun _ _ _ h=>h),z_c (fun _ _ _ h=>h),z_c (fun _ _ _ h=>h),z_c (fun _ _ _ h=>h),z_c (fun _ _ _ h=>h),z_c (fun _ _ _ h=>h),z_c (fun _ _ _ h=>h),z_c (fun _ _ _ h=>h),z_c (fun _ _ _ h=>h),z_c (fun _ _ _ h=>h),z_c (fun _ _ _ h=>h),z_c (fun _ _ _ h=>h),z_c (fun _ _ _ h=>h),z_c (fun _ _ _ h=>h),z_c (fun _ _ _ h=>h),z_c (fun _ _ _ h=>h),z_c (fun _ _ _ h=>h),z_c (fun _ _ _ h=>h),z_c (fun _ _ _ h=>h),z_c (fun _ _ _ h=>h),z_c (fun _ _ _ h=>h),z_c (fun _ _ _ h=>h),z_c (fun _ _ _ h=>h),z_c (fun _ _ _ h=>h),z_b ⟨fun _ _ _ h=>h,fun _ _ _ h=>h,fun _ _ _ h=>h,trivial⟩,z_b ⟨fun _ _ _ h=>h,fun _ _ _ h=>h,fun _ _ _ h=>h,trivial⟩,trivial⟩) (zi ⟨zb rfl,zb rfl,(ze (zh rfl)),zb rfl,zb rfl,(ze (zh rfl)),zb rfl,zb rfl,zb rfl,zb rfl,zb rfl,zb rfl,zb rfl,zb rfl,(zu ((zh rfl) _)),zb rfl,zb rfl,(ze (zh rfl)),(zu ((zh rfl) _)),zb rfl,zb rfl,(ze (zh rfl)),zb rfl,zb rfl,trivial⟩) ⟨e_fb (show pV (.bool v1)=_ by rw [h2]),
  e_fb (show pV (.bool v3)=_ by rw [h4]),
  e_fb (show pV (.bool v7)=_ by rw [h8]),
  zm (E:=31) (by kernel_rfl) (zd rfl) (za (by rw [← e501];rfl)),
  e_bin (za rfl) (za rfl) (za rfl) (r_cmp (congrArg some e502)),
  e_fb (show pV (.bool v502)=_ by rw [h503]),
  e_iaL (E:=31) (z:=3) zp (by kernel_rfl) (by kernel_rfl) (zd rfl) (za rfl) s506 s507 (zd rfl),
  e_ldG (by kernel_rfl) (by kernel_rfl) (zd rfl) (cE_eq _).symm rfl (zp _),
  e_iaL (E:=31) (z:=3) zp (by kernel_rfl) (by kernel_rfl) (zd rfl) (za rfl) s510 s511 (zd rfl),
  e_ldG (by kernel_rfl) (by kernel_rfl) (zd rfl) (cE_eq _).symm rfl (zp _),
  zg (IH x505 x509 v512 e512 s513) rfl rfl rfl rfl,
  e_un (za rfl) (za rfl) (fun W=>by rw [← e514];exact r_not W),
  e_fb (show pV (.bool v514)=_ by rw [h515]),
  trivial⟩ mixed hR trivial (fun _ _ _ hs=>by cases hs) (by kernel_rfl:qk (KN w0) Tryd.prog _ .no ⟨ntOf Tryd.prog 16,[],[]⟩ (lp Tryd.prog 16 0) 5000 zJ .r (.sl 0 (.o (.g [.h 0,.h 1,.h 2]))::.sl 1 (.o (.g [.h 3,.h 4,.h 5]))::.sl 2 (.o (.c (.p 0 0)))::.sl 3 (.o (.c (.p 1 0)))::.sl 4 (.o (.c (.k (.bool false))))::.sl 6 (.o (.c (.p 0 0)))::.sl 7 (.o (.c (.h 0)))::.sl 8 (.o (.c (.p 1 0)))::.sl 9 (.o (.c (.h 3)))::.sl 10 (.o (.c (.h 6)))::.sl 11 (.o (.c (.h 6)))::.sl 12 (.o (.c (.p 0 1)))::.sl 13 (.o (.c (.h 1)))::.sl 14 (.o (.c (.p 1 1)))::.sl 15 (.o (.c (.h 4)))::.sl 16 (.o (.c (.h 7)))::.sl 17 (.o (.c (.h 7)))::.sl 18 (.o (.c (.h 7)))::.sl 19 (.o (.c (.p 0 2)))::.sl 20 (.o (.c (.h 2)))::.sl 21 (.o (.c (.h 8)))::.sl 22 (.o (.c (.p 1 2)))::.sl 23 (.o (.c (.h 5)))::.sl 24 (.o (.c (.h 9)))::.sl 25 (.o (.c (.h 10)))::.sl 26 (.o (.c (.h 10)))::.bx 0 31 [.h 0,.h 1,.h 2]::.bx 1 31 [.h 3,.h 4,.h 5]::[]:List Atom)=true) rfl (zipA.imp ⟨z_g ⟨fun β v W h=>(zd u0 β v W).2 h,fun β v W h=>(zd u1 β v W).2 h,fun β v W h=>(zd u2 β v W).2 h,trivial⟩,z_g ⟨fun β v W h=>(zd u3 β v W).2 h,fun β v W h=>(zd u4 β v W).2 h,fun β v W h=>(zd u5 β v W).2 h,trivial⟩,z_c (fun _ _ _ h=>h),z_c (fun _ _ _ h=>h),z_c (fun β v W h=>(zd u11 β v W).2 (by rw [← q0];exact h)),z_c (fun _ _ _ h=>h),z_c (fun β v W h=>(zd u0 β v W).2 h),z_c (fun _ _ _ h=>h),z_c (fun β v W h=>(zd u3 β v W).2 h),z_c (fun β v W h=>(zd u6 β v W).2 h),z_c (fun β v W h=>(zd u6 β v W).2 h),z_c (fun _ _ _ h=>h),z_c (fun β v W h=>(zd u1 β v W).2 h),z_c (fun _ _ _ h=>h),z_c (fun β v W h=>(zd u4 β v W).2 h),z_c (fun β v W h=>(zd u7 β v W).2 h),z_c (fun β v W h=>(zd u7 β v W).2 h),z_c (fun β v W h=>(zd u7 β v W).2 h),z_c (fun _ _ _ h=>h),z_c (fun β v W h=>(zd u2 β v W).2 h),z_c (fun β v W h=>(zd u8 β v W).2 h),z_c (fun _ _ _ h=>h),z_c (fun β v W h=>(zd u5 β v W).2 h),z_c (fun β v W h=>(zd u9 β v W).2 h),z_c (fun β v W h=>(zd u10 β v W).2 h),z_c (fun β v W h=>(zd u10 β v W).2 h),z_b ⟨fun β v W h=>(zd u0 β v W).2 h,fun β v W h=>(zd u1 β v W).2 h,fun β v W h=>(zd u2 β v W).2 h,trivial⟩,z_b ⟨fun β v W h=>(zd u3 β v W).2 h,fun β v W h=>(zd u4 β v W).2 h,fun β v W h=>(zd u5 β v W).2 h,trivial⟩,trivial⟩)
def zfL (a:Xp) (b:Xp) (N:Nat) (v1:Bool) (v3:Bool) (v5:Int) (v6:Int) (v7:Bool) (t:x_rsame_A_T) (o:Bool):Prop:=(∃(v501:Int),∃(v502:Bool),∃(n504:Nat),∃(x505:Xp),∃(n508:Nat),∃(x509:Xp),∃(v512:Bool),∃(v514:Bool),(((a.l.length:Int))=v501)∧((decide (t.i<v501))=v502)∧((sameX x505 x509)=v512)∧((!v512)=v514)∧(v502=true)∧(t.i=(n504:Int))∧(a.l[n504]?=some x505)∧(t.i=(n508:Int))∧(b.l[n508]?=some x509)∧(nodes x505≤N)∧(v514=true)∧((false)=o)∧True)
theorem zcG {w0:World} (a:Xp) (b:Xp) (N:Nat) (v1:Bool) (v3:Bool) (v5:Int) (v6:Int) (v7:Bool) (IH:zV w0 N) (h2:v1=false) (h4:v3=false) (h8:v7=false) (o:Bool) {F:Fact} (u0:F.c 0=pI a.op) (u1:F.c 1=pI a.n) (u2:F.c 2=pLs cE a.l) (u3:F.c 3=pI b.op) (u4:F.c 4=pI b.n) (u5:F.c 5=pLs cE b.l) (u6:F.c 6=pB v1) (u7:F.c 7=pB v3) (u8:F.c 8=pI v5) (u9:F.c 9=pI v6) (u10:F.c 10=pB v7) (u11:F.c 11=pB o) (R:Frm) (hR:R.pm=⟨ntOf Tryd.prog 16,[],[]⟩) (J:x_rsame_A_T→Prop) (m:x_rsame_A_T→Nat) (hJ:J { i:=(0:Int) }) (rounds:∀t,J t→zfL a b N v1 v3 v5 v6 v7 t o∨∃t',zcv a b N v1 v3 v5 v6 v7 t t'∧m t'<m t∧J t'):zt (KN w0) Tryd.prog F R qN (lp Tryd.prog 16 0):=by
 refine qg (T:=x_rsame_A_T) (fun t=>FL [pI a.op,pI a.n,pLs cE a.l,pI b.op,pI b.n,pLs cE b.l,pB v1,pB v3,pI v5,pI v6,pB v7,pI t.i] []) J m { i:=(0:Int) } zJ hJ (zipA.imp ⟨z_g ⟨fun β v W h=>(zd u0 β v W).1 h,fun β v W h=>(zd u1 β v W).1 h,fun β v W h=>(zd u2 β v W).1 h,trivial⟩,z_g ⟨fun β v W h=>(zd u3 β v W).1 h,fun β v W h=>(zd u4 β v W).1 h,fun β v W h=>(zd u5 β v W).1 h,trivial⟩,z_c (fun _ _ _ h=>h),z_c (fun _ _ _ h=>h),z_c (fun _ _ _ h=>h),z_c (fun _ _ _ h=>h),z_c (fun β v W h=>(zd u0 β v W).1 h),z_c (fun _ _ _ h=>h),z_c (fun β v W h=>(zd u3 β v W).1 h),z_c (fun β v W h=>(zd u6 β v W).1 h),z_c (fun β v W h=>(zd u6 β v W).1 h),z_c (fun _ _ _ h=>h),z_c (fun β v W h=>(zd u1 β v W).1 h),z_c (fun _ _ _ h=>h),z_c (fun β v W h=>(zd u4 β v W).1 h),z_c (fun β v W h=>(zd u7 β v W).1 h),z_c (fun β v W h=>(zd u7 β v W).1 h),z_c (fun β v W h=>(zd u7 β v W).1 h),z_c (fun _ _ _ h=>h),z_c (fun β v W h=>(zd u2 β v W).1 h),z_c (fun β v W h=>(zd u8 β v W).1 h),z_c (fun _ _ _ h=>h),z_c (fun β v W h=>(zd u5 β v W).1 h),z_c (fun β v W h=>(zd u9 β v W).1 h),z_c (fun β v W h=>(zd u10 β v W).1 h),z_c (fun β v W h=>(zd u10 β v W).1 h),z_b ⟨fun β v W h=>(zd u0 β v W).1 h,fun β v W h=>(zd u1 β v W).1 h,fun β v W h=>(zd u2 β v W).1 h,trivial⟩,z_b ⟨fun β v W h=>(zd u3 β v W).1 h,fun β v W h=>(zd u4 β v W).1 h,fun β v W h=>(zd u5 β v W).1 h,trivial⟩,trivial⟩) rfl fun t ht=>?_
 rcases rounds t ht with hz_ | ⟨t',hz_,hm_,hj_⟩
 ·refine .inl ?_
  rcases hz_ with ⟨v501,v502,n504,x505,n508,x509,v512,v514,e501,e502,e512,e514,h503,s506,s507,s510,s511,s513,h515,q0,_⟩
  ·exact zeB  a b N v1 v3 v5 v6 v7 IH h2 h4 h8 t.i v501 v502 n504 x505 n508 x509 v512 v514 e501 e502 e512 e514 h503 s506 s507 s510 s511 s513 h515 o F u0 u1 u2 u3 u4 u5 u6 u7 u8 u9 u10 u11 q0 R hR
 ·refine .inr ⟨t',hm_,hj_,?_⟩
  rcases hz_ with ⟨v501,v502,n504,x505,n508,x509,v512,v514,v516,e501,e502,e512,e514,e516,h503,s506,s507,s510,s511,s513,h515,q0,_⟩
  ·exact zbS  a b N v1 v3 v5 v6 v7 IH h2 h4 h8 t.i v501 v502 n504 x505 n508 x509 v512 v514 v516 e501 e502 e512 e514 e516 h503 s506 s507 s510 s511 s513 h515 t'.i q0 R hR
theorem zeA {w0:World} (a:Xp) (b:Xp) (N:Nat) (v1:Bool) (v3:Bool) (v5:Int) (v6:Int) (v7:Bool) (IH:zV w0 N) (h2:v1=false) (h4:v3=false) (h8:v7=false) (o:Bool) {F:Fact} (u0:F.c 0=pI a.op) (u1:F.c 1=pI a.n) (u2:F.c 2=pLs cE a.l) (u3:F.c 3=pI b.op) (u4:F.c 4=pI b.n) (u5:F.c 5=pLs cE b.l) (u6:F.c 6=pB v1) (u7:F.c 7=pB v3) (u8:F.c 8=pI v5) (u9:F.c 9=pI v6) (u10:F.c 10=pB v7) (u11:F.c 11=pB o) (R:Frm) (hR:R.pm=⟨ntOf Tryd.prog 16,[],[]⟩) (hb:a.l.length<9223372036854775808) (hlm:a.l.length=b.l.length) (hN:nodes a≤N+1) (hO:sameL a.l b.l=false) (ho:o=false):zt (KN w0) Tryd.prog F R qN (lp Tryd.prog 16 0):=by
 refine zcG  a b N v1 v3 v5 v6 v7 IH h2 h4 h8 o u0 u1 u2 u3 u4 u5 u6 u7 u8 u9 u10 u11 R hR (fun ⟨i⟩=>∃k:Nat,i=(k:Int)∧k≤a.l.length∧sameL (a.l.drop k) (b.l.drop k)=false) (fun ⟨i⟩=>((a.l.length:Int) - i).toNat) ⟨0,rfl,Nat.zero_le _,by rw [List.drop_zero,List.drop_zero];exact hO⟩ fun t hJ=>?_
 obtain ⟨i⟩:=t
 dsimp only at hJ
 obtain ⟨k,hi,hk,hs⟩:=hJ
 obtain ⟨v501,e501⟩:∃v,((a.l.length:Int))=v:=⟨_,rfl⟩
 obtain ⟨v502,e502⟩:∃v,(decide (i<v501))=v:=⟨_,rfl⟩
 cases h503:v502 with
 | true =>
  obtain ⟨n504,x505,s506,s507⟩:∃(n504:Nat) (x505:Xp),i=(n504:Int)∧a.l[n504]?=some x505:=by (have dh503:=of_decide_eq_true (e502.trans h503);have hz:=e501;have hlt:k<a.l.length:=(by omega);exact ⟨k,_,hi,List.getElem?_eq_getElem hlt⟩)
  obtain ⟨n508,x509,s510,s511⟩:∃(n508:Nat) (x509:Xp),i=(n508:Int)∧b.l[n508]?=some x509:=by (have dh503:=of_decide_eq_true (e502.trans h503);have hz:=e501;have hlt:k<b.l.length:=(by omega);exact ⟨k,_,hi,List.getElem?_eq_getElem hlt⟩)
  obtain ⟨v512,e512⟩:∃v,(sameX x505 x509)=v:=⟨_,rfl⟩
  have s513:nodes x505≤N:=by exact zC hN s507
  obtain ⟨v514,e514⟩:∃v,(!v512)=v:=⟨_,rfl⟩
  cases h515:v514 with
  | true =>
   refine .inl (⟨v501,v502,n504,x505,n508,x509,v512,v514,e501,e502,e512,e514,h503,s506,s507,s510,s511,s513,h515,?_,trivial⟩)
   exact ho.symm
  | false =>
   obtain ⟨v516,e516⟩:∃v,(IntKind.i64.wrap (i+(1:Int)))=v:=⟨_,rfl⟩
   refine .inr ⟨⟨v516⟩,⟨v501,v502,n504,x505,n508,x509,v512,v514,v516,e501,e502,e512,e514,e516,h503,s506,s507,s510,s511,s513,h515,rfl,trivial⟩,?_,?_⟩
   all_goals (have dh503:=of_decide_eq_true (e502.trans h503);have hz:=e501;have hk1:n504=k:=(by omega);have hk2:n504=n508:=(by omega);subst hk1;subst hk2;have hd:=q4 s507 s511;rw [e512,show v512=true from (by simp_all)] at hd;have hlt:n504<a.l.length:=(List.getElem?_eq_some_iff.1 s507).1;have x3:v516=((n504+1:Nat):Int):=(by rw [← e516,hi,wri (by omega)];omega))
   ·show ((a.l.length:Int) - v516).toNat<((a.l.length:Int) - i).toNat
    omega
   ·exact ⟨n504+1,x3,by omega,by rw [hs,Bool.true_and] at hd;exact hd.symm⟩
 | false =>
  exfalso
  have dh503:=of_decide_eq_false (e502.trans h503);have hz:=e501;have hkl:k=a.l.length:=(by omega);rw [hkl,List.drop_length,hlm,List.drop_length,sameL] at hs;cases hs
theorem zg7 {w0:World} (a:Xp) (b:Xp) (N:Nat) (IH:zV w0 N) (v1:Bool) (e1:((a.op != b.op))=v1) (h2:v1=true):Fun (KN w0) Tryd.prog 16 [.o (.g [pI a.op,pI a.n,pLs cE a.l]),.o (.g [pI b.op,pI b.n,pLs cE b.l])] (.o (.c (pV (.bool false)))):=
 zj (zl (F:=FL [pI a.op,pI a.n,pLs cE a.l,pI b.op,pI b.n,pLs cE b.l,pB v1] []) (C:=[(1000007,.bin .neq 3 (LF (.h 0)) (LF (.h 3)) (LF (.h 6))),
  (10006,.fb 6 true)]) (k:=⟨16,[.o (.g [.h 0,.h 1,.h 2]),.o (.g [.h 3,.h 4,.h 5])],[],.o (.c (.k (.bool false))),[]⟩) 0 (zi ⟨zb rfl,zb rfl,(ze (zh rfl)),zb rfl,zb rfl,(ze (zh rfl)),zb rfl,trivial⟩) ⟨e_bin (za rfl) (za rfl) (za rfl) (r_cmp (congrArg some e1)),
  e_fb (show pV (.bool v1)=_ by rw [h2]),
  trivial⟩ mixed (by kernel_rfl)) rfl rfl rfl rfl
theorem zg8 {w0:World} (a:Xp) (b:Xp) (N:Nat) (IH:zV w0 N) (v1:Bool) (v3:Bool) (e1:((a.op != b.op))=v1) (e3:((a.n != b.n))=v3) (h2:v1=false) (h4:v3=true):Fun (KN w0) Tryd.prog 16 [.o (.g [pI a.op,pI a.n,pLs cE a.l]),.o (.g [pI b.op,pI b.n,pLs cE b.l])] (.o (.c (pV (.bool false)))):=
 zj (zl (F:=FL [pI a.op,pI a.n,pLs cE a.l,pI b.op,pI b.n,pLs cE b.l,pB v1,pB v3] []) (C:=[(1000007,.bin .neq 3 (LF (.h 0)) (LF (.h 3)) (LF (.h 6))),
  (10006,.fb 6 false),
  (1000013,.bin .neq 3 (LF (.h 1)) (LF (.h 4)) (LF (.h 7))),
  (10007,.fb 7 true)]) (k:=⟨16,[.o (.g [.h 0,.h 1,.h 2]),.o (.g [.h 3,.h 4,.h 5])],[],.o (.c (.k (.bool false))),[]⟩) 0 (zi ⟨zb rfl,zb rfl,(ze (zh rfl)),zb rfl,zb rfl,(ze (zh rfl)),zb rfl,zb rfl,trivial⟩) ⟨e_bin (za rfl) (za rfl) (za rfl) (r_cmp (congrArg some e1)),
  e_fb (show pV (.bool v1)=_ by rw [h2]),
  e_bin (za rfl) (za rfl) (za rfl) (r_cmp (congrArg some e3)),
  e_fb (show pV (.bool v3)=_ by rw [h4]),
  trivial⟩ mixed (by kernel_rfl)) rfl rfl rfl rfl
theorem zg9 {w0:World} (a:Xp) (b:Xp) (N:Nat) (IH:zV w0 N) (v1:Bool) (v3:Bool) (v5:Int) (v6:Int) (v7:Bool) (e1:((a.op != b.op))=v1) (e3:((a.n != b.n))=v3) (e5:((a.l.length:Int))=v5) (e6:((b.l.length:Int))=v6) (e7:((v5 != v6))=v7) (h2:v1=false) (h4:v3=false) (h8:v7=true):Fun (KN w0) Tryd.prog 16 [.o (.g [pI a.op,pI a.n,pLs cE a.l]),.o (.g [pI b.op,pI b.n,pLs cE b.l])] (.o (.c (pV (.bool false)))):=
 zj (zl (F:=FL [pI a.op,pI a.n,pLs cE a.l,pI b.op,pI b.n,pLs cE b.l,pB v1,pB v3,pI v5,pI v6,pB v7] []) (C:=[(1000007,.bin .neq 3 (LF (.h 0)) (LF (.h 3)) (LF (.h 6))),
  (10006,.fb 6 false),
  (1000013,.bin .neq 3 (LF (.h 1)) (LF (.h 4)) (LF (.h 7))),
  (10007,.fb 7 false),
  (1000018,.op (.len [28] 3) [LF (.h 2)] [] (LF (.h 8))),
  (1000021,.op (.len [28] 3) [LF (.h 5)] [] (LF (.h 9))),
  (1000022,.bin .neq 3 (LF (.h 8)) (LF (.h 9)) (LF (.h 10))),
  (10010,.fb 10 true)]) (k:=⟨16,[.o (.g [.h 0,.h 1,.h 2]),.o (.g [.h 3,.h 4,.h 5])],[],.o (.c (.k (.bool false))),[]⟩) 0 (zi ⟨zb rfl,zb rfl,(ze (zh rfl)),zb rfl,zb rfl,(ze (zh rfl)),zb rfl,zb rfl,zb rfl,zb rfl,zb rfl,trivial⟩) ⟨e_bin (za rfl) (za rfl) (za rfl) (r_cmp (congrArg some e1)),
  e_fb (show pV (.bool v1)=_ by rw [h2]),
  e_bin (za rfl) (za rfl) (za rfl) (r_cmp (congrArg some e3)),
  e_fb (show pV (.bool v3)=_ by rw [h4]),
  zm (E:=31) (by kernel_rfl) (zd rfl) (za (by rw [← e5];rfl)),
  zm (E:=31) (by kernel_rfl) (zd rfl) (za (by rw [← e6];rfl)),
  e_bin (za rfl) (za rfl) (za rfl) (r_cmp (congrArg some e7)),
  e_fb (show pV (.bool v7)=_ by rw [h8]),
  trivial⟩ mixed (by kernel_rfl)) rfl rfl rfl rfl
theorem zha {w0:World} (a:Xp) (b:Xp) (N:Nat) (IH:zV w0 N) (v1:Bool) (v3:Bool) (v5:Int) (v6:Int) (v7:Bool) (o:Bool) (e1:((a.op != b.op))=v1) (e3:((a.n != b.n))=v3) (e5:((a.l.length:Int))=v5) (e6:((b.l.length:Int))=v6) (e7:((v5 != v6))=v7) (h2:v1=false) (h4:v3=false) (h8:v7=false) (L_x_rsame_B:∀R:Frm,R.pm=⟨ntOf Tryd.prog 16,[],[]⟩→zt (KN w0) Tryd.prog (FL [pI a.op,pI a.n,pLs cE a.l,pI b.op,pI b.n,pLs cE b.l,pB v1,pB v3,pI v5,pI v6,pB v7,pB o] []) R qN (lp Tryd.prog 16 0)):Fun (KN w0) Tryd.prog 16 [.o (.g [pI a.op,pI a.n,pLs cE a.l]),.o (.g [pI b.op,pI b.n,pLs cE b.l])] (.o (.c (pB o))):=
 zj (zA (F:=FL [pI a.op,pI a.n,pLs cE a.l,pI b.op,pI b.n,pLs cE b.l,pB v1,pB v3,pI v5,pI v6,pB v7,pB o] []) (C:=[(1000007,.bin .neq 3 (LF (.h 0)) (LF (.h 3)) (LF (.h 6))),
  (10006,.fb 6 false),
  (1000013,.bin .neq 3 (LF (.h 1)) (LF (.h 4)) (LF (.h 7))),
  (10007,.fb 7 false),
  (1000018,.op (.len [28] 3) [LF (.h 2)] [] (LF (.h 8))),
  (1000021,.op (.len [28] 3) [LF (.h 5)] [] (LF (.h 9))),
  (1000022,.bin .neq 3 (LF (.h 8)) (LF (.h 9)) (LF (.h 10))),
  (10010,.fb 10 false)]) (k:=⟨16,[.o (.g [.h 0,.h 1,.h 2]),.o (.g [.h 3,.h 4,.h 5])],[],.o (.c (.h 11)),[]⟩) ⟨[qN],[],0⟩ [] 0 (zi ⟨zb rfl,zb rfl,(ze (zh rfl)),zb rfl,zb rfl,(ze (zh rfl)),zb rfl,zb rfl,zb rfl,zb rfl,zb rfl,zb rfl,trivial⟩) ⟨e_bin (za rfl) (za rfl) (za rfl) (r_cmp (congrArg some e1)),
  e_fb (show pV (.bool v1)=_ by rw [h2]),
  e_bin (za rfl) (za rfl) (za rfl) (r_cmp (congrArg some e3)),
  e_fb (show pV (.bool v3)=_ by rw [h4]),
  zm (E:=31) (by kernel_rfl) (zd rfl) (za (by rw [← e5];rfl)),
  zm (E:=31) (by kernel_rfl) (zd rfl) (za (by rw [← e6];rfl)),
  e_bin (za rfl) (za rfl) (za rfl) (r_cmp (congrArg some e7)),
  e_fb (show pV (.bool v7)=_ by rw [h8]),
  trivial⟩ mixed trivial (fun R hR p hp s hs=>by
 have hl:zW (qP Tryd.prog 16)=[(4,lp Tryd.prog 16 0)]:=by kernel_rfl
 rw [hl] at hp
 simp only [List.mem_cons,List.not_mem_nil,or_false] at hp
 rcases hp with rfl
 ·have e:s=qN:=(Option.some.inj hs).symm
  subst e;exact L_x_rsame_B R hR) (by kernel_rfl)) rfl rfl rfl rfl
theorem zhb {w0:World} (a:Xp) (b:Xp) (N:Nat) (IH:zV w0 N) (v1:Bool) (v3:Bool) (v5:Int) (v6:Int) (v7:Bool) (e1:((a.op != b.op))=v1) (e3:((a.n != b.n))=v3) (e5:((a.l.length:Int))=v5) (e6:((b.l.length:Int))=v6) (e7:((v5 != v6))=v7) (h2:v1=false) (h4:v3=false) (h8:v7=false) (L_x_rsame_A:∀R:Frm,R.pm=⟨ntOf Tryd.prog 16,[],[]⟩→zt (KN w0) Tryd.prog (FL [pI a.op,pI a.n,pLs cE a.l,pI b.op,pI b.n,pLs cE b.l,pB v1,pB v3,pI v5,pI v6,pB v7] []) R qM (lp Tryd.prog 16 0)):Fun (KN w0) Tryd.prog 16 [.o (.g [pI a.op,pI a.n,pLs cE a.l]),.o (.g [pI b.op,pI b.n,pLs cE b.l])] (.o (.c (pV (.bool true)))):=
 zj (zA (F:=FL [pI a.op,pI a.n,pLs cE a.l,pI b.op,pI b.n,pLs cE b.l,pB v1,pB v3,pI v5,pI v6,pB v7] []) (C:=[(1000007,.bin .neq 3 (LF (.h 0)) (LF (.h 3)) (LF (.h 6))),
  (10006,.fb 6 false),
  (1000013,.bin .neq 3 (LF (.h 1)) (LF (.h 4)) (LF (.h 7))),
  (10007,.fb 7 false),
  (1000018,.op (.len [28] 3) [LF (.h 2)] [] (LF (.h 8))),
  (1000021,.op (.len [28] 3) [LF (.h 5)] [] (LF (.h 9))),
  (1000022,.bin .neq 3 (LF (.h 8)) (LF (.h 9)) (LF (.h 10))),
  (10010,.fb 10 false)]) (k:=⟨16,[.o (.g [.h 0,.h 1,.h 2]),.o (.g [.h 3,.h 4,.h 5])],[],.o (.c (.k (.bool true))),[]⟩) ⟨[qM],[],0⟩ [] 0 (zi ⟨zb rfl,zb rfl,(ze (zh rfl)),zb rfl,zb rfl,(ze (zh rfl)),zb rfl,zb rfl,zb rfl,zb rfl,zb rfl,trivial⟩) ⟨e_bin (za rfl) (za rfl) (za rfl) (r_cmp (congrArg some e1)),
  e_fb (show pV (.bool v1)=_ by rw [h2]),
  e_bin (za rfl) (za rfl) (za rfl) (r_cmp (congrArg some e3)),
  e_fb (show pV (.bool v3)=_ by rw [h4]),
  zm (E:=31) (by kernel_rfl) (zd rfl) (za (by rw [← e5];rfl)),
  zm (E:=31) (by kernel_rfl) (zd rfl) (za (by rw [← e6];rfl)),
  e_bin (za rfl) (za rfl) (za rfl) (r_cmp (congrArg some e7)),
  e_fb (show pV (.bool v7)=_ by rw [h8]),
  trivial⟩ mixed trivial (fun R hR p hp s hs=>by
 have hl:zW (qP Tryd.prog 16)=[(4,lp Tryd.prog 16 0)]:=by kernel_rfl
 rw [hl] at hp
 simp only [List.mem_cons,List.not_mem_nil,or_false] at hp
 rcases hp with rfl
 ·have e:s=qM:=(Option.some.inj hs).symm
  subst e;exact L_x_rsame_A R hR) (by kernel_rfl)) rfl rfl rfl rfl
theorem zi5 {w0:World} {N:Nat} (IH:zV w0 N) (a b:Xp) (r:Bool) (hr:sameX a b=r) (hN:nodes a≤N+1) (hN1:N+1≤1000000):Fun (KN w0) Tryd.prog 16 [.o (.g [pI a.op,pI a.n,pLs cE a.l]),.o (.g [pI b.op,pI b.n,pLs cE b.l])] (.o (.c (pB r))):=by
 obtain ⟨v1,e1⟩:∃v,((a.op != b.op))=v:=⟨_,rfl⟩
 cases h2:v1 with
 | true =>
  refine Fun.imp (zg7 a b N IH v1 e1 h2) (fun _ _ _ h=>h) (fun v W D h=>?_)
  have r0:r=false:=by
   (have dh2:=bne_iff_ne.1 (e1.trans h2);rw [← hr,zai];simp_all)
  rw [r0];exact h
 | false =>
  obtain ⟨v3,e3⟩:∃v,((a.n != b.n))=v:=⟨_,rfl⟩
  cases h4:v3 with
  | true =>
   refine Fun.imp (zg8 a b N IH v1 v3 e1 e3 h2 h4) (fun _ _ _ h=>h) (fun v W D h=>?_)
   have r0:r=false:=by
    (have dh2:=bne_eq_false_iff_eq.1 (e1.trans h2);have dh4:=bne_iff_ne.1 (e3.trans h4);rw [← hr,zai];simp_all)
   rw [r0];exact h
  | false =>
   obtain ⟨v5,e5⟩:∃v,((a.l.length:Int))=v:=⟨_,rfl⟩
   obtain ⟨v6,e6⟩:∃v,((b.l.length:Int))=v:=⟨_,rfl⟩
   obtain ⟨v7,e7⟩:∃v,((v5 != v6))=v:=⟨_,rfl⟩
   cases h8:v7 with
   | true =>
    refine Fun.imp (zg9 a b N IH v1 v3 v5 v6 v7 e1 e3 e5 e6 e7 h2 h4 h8) (fun _ _ _ h=>h) (fun v W D h=>?_)
    have r0:r=false:=by
     (have dh2:=bne_eq_false_iff_eq.1 (e1.trans h2);have dh4:=bne_eq_false_iff_eq.1 (e3.trans h4);have dh8:=bne_iff_ne.1 (e7.trans h8);rw [← hr,zai,zdU (l:=a.l) (m:=b.l) (by omega),Bool.and_false])
    rw [r0];exact h
   | false =>
    by_cases c4:sameL a.l b.l=true
    ·
     refine Fun.imp (zhb a b N IH v1 v3 v5 v6 v7 e1 e3 e5 e6 e7 h2 h4 h8 (fun R hR=>zey a b N v1 v3 v5 v6 v7 IH  h2 h4 h8  rfl rfl rfl rfl rfl rfl rfl rfl rfl rfl rfl R hR (by have:=q9 a;omega) (by have q:=bne_eq_false_iff_eq.1 (e7.trans h8);omega) hN c4)) (fun _ _ _ h=>h) (fun v W D h=>?_)
     have r0:r=true:=by
      (have dh2:=bne_eq_false_iff_eq.1 (e1.trans h2);have dh4:=bne_eq_false_iff_eq.1 (e3.trans h4);have dh8:=bne_eq_false_iff_eq.1 (e7.trans h8);rw [← hr,zai];simp_all)
     rw [r0];exact h
    ·
     obtain ⟨o,hO_x_rsame_B⟩:∃(o:Bool),false=o:=⟨_,rfl⟩
     refine Fun.imp (zha a b N IH v1 v3 v5 v6 v7 o e1 e3 e5 e6 e7 h2 h4 h8 (fun R hR=>zeA a b N v1 v3 v5 v6 v7 IH  h2 h4 h8 o rfl rfl rfl rfl rfl rfl rfl rfl rfl rfl rfl rfl R hR (by have:=q9 a;omega) (by have q:=bne_eq_false_iff_eq.1 (e7.trans h8);omega) hN (by simpa using c4) hO_x_rsame_B.symm)) (fun _ _ _ h=>h) (fun v W D h=>?_)
     have r0:r=o:=by
      (have dh2:=bne_eq_false_iff_eq.1 (e1.trans h2);have dh4:=bne_eq_false_iff_eq.1 (e3.trans h4);have dh8:=bne_eq_false_iff_eq.1 (e7.trans h8);rw [← hr,zai];simp_all)
     rw [r0];exact h
theorem zc1 {w0:World}:∀N:Nat,N≤1000000→z6 w0 N
 | 0,_=>fun x y v _ h=>by have:=qC x;omega
 | N+1,hN=>fun x y v hv h=>zka (zc1 N (by omega)) x y v hv h hN
theorem zkB {w0:World} (x y:Xp) (v:Bool) (hv:sameX x y=v) (hn:nodes x≤1000000):Fun (KN w0) Tryd.prog 15 [.o (.g [pI x.op,pI x.n,pLs cE x.l]),.o (.g [pI y.op,pI y.n,pLs cE y.l])] (.o (.c (pB v))):=zc1 (nodes x) hn x y v hv (Nat.le_refl _)
theorem zcw {w0:World}:∀N:Nat,N≤1000000→zV w0 N
 | 0,_=>fun x y v _ h=>by have:=qC x;omega
 | N+1,hN=>fun x y v hv h=>zi5 (zcw N (by omega)) x y v hv h hN
theorem zbK {w0:World} (x y:Xp) (v:Bool) (hv:sameX x y=v) (hn:nodes x≤1000000):Fun (KN w0) Tryd.prog 16 [.o (.g [pI x.op,pI x.n,pLs cE x.l]),.o (.g [pI y.op,pI y.n,pLs cE y.l])] (.o (.c (pB v))):=zcw (nodes x) hn x y v hv (Nat.le_refl _)
end Go.Proofs.YtdkofaajcpcjkaaDoor
namespace Go.Proofs.YtdkofaajcpcjkaaDoor
open Go.RowKit
theorem zcA {v:Value} {W:World} {D:Dat} (h:(PSh.o (.g [pV (.int .i64 0),pV (.int .i64 0),pV (.slice none 0 0)])).ok v W D):(PSh.o (.g [pI X0.op,pI X0.n,pLs cE X0.l])).ok v W D:=by
 obtain ⟨vs,e,h⟩:=h
 refine ⟨vs,e,?_⟩
 match vs.toList,h with
 | [x,y,z],⟨h3,h4,h5,_⟩=>exact ⟨h3,h4,zdl _ _ _ h5,trivial⟩
theorem zjh {v:Value} {W:World} {D:Dat} (h:(PSh.o (.c (pV (.slice none 0 0)))).ok v W D):(PSh.o (.c (pLs cI []))).ok v W D:=.inl ⟨⟨none,0,h⟩,rfl,rfl⟩
theorem zga {p q:Pred}:∀v W D,(PSh.o (.g [p,q,pV (.slice none 0 0)])).ok v W D→(PSh.o (.g [p,q,pLs cE ([]:List Xp)])).ok v W D:=fun v W D ⟨vs,e,h⟩=>⟨vs,e,by
 match vs.toList,h with
 | [a,b,c],⟨h1,h2,h3,_⟩=>exact ⟨h1,h2,zdl _ _ _ h3,trivial⟩⟩
theorem zk9 {w0:World} (n:Int):Fun (KN w0) Tryd.prog 27 [.o (.c (pI n))] (.o (.g [pV (.int .i64 1),pI n,pV (.slice none 0 0)])):=
 zj (zl (F:=FL [pI n] []) (C:=[]) (k:=⟨27,[.o (.c (.h 0))],[],.o (.g [.k (.int .i64 1),.h 0,.k (.slice none 0 0)]),[]⟩) 0 (zi ⟨zb rfl,trivial⟩) trivial mixed (by kernel_rfl)) rfl rfl rfl rfl
theorem x_num {w0:World} (n:Int) (e:Xp) (he:Xp.mk 1 n []=e):Fun (KN w0) Tryd.prog 27 [.o (.c (pI n))] (.o (.g [pI e.op,pI e.n,pLs cE e.l])):=by
 subst he;exact Fun.imp (zk9 n) (fun _ _ _ h=>h) zga
theorem zk5 {w0:World} (n:Int):Fun (KN w0) Tryd.prog 26 [.o (.c (pI n))] (.o (.g [pV (.int .i64 2),pI n,pV (.slice none 0 0)])):=
 zj (zl (F:=FL [pI n] []) (C:=[]) (k:=⟨26,[.o (.c (.h 0))],[],.o (.g [.k (.int .i64 2),.h 0,.k (.slice none 0 0)]),[]⟩) 0 (zi ⟨zb rfl,trivial⟩) trivial mixed (by kernel_rfl)) rfl rfl rfl rfl
theorem x_arg {w0:World} (n:Int) (e:Xp) (he:Xp.mk 2 n []=e):Fun (KN w0) Tryd.prog 26 [.o (.c (pI n))] (.o (.g [pI e.op,pI e.n,pLs cE e.l])):=by
 subst he;exact Fun.imp (zk5 n) (fun _ _ _ h=>h) zga
theorem zll {w0:World} (o:Int) (a:Xp) (b:Xp) (v1:(List Xp)) (e1:(([a,b]:List Xp))=v1):Fun (KN w0) Tryd.prog 20 [.o (.c (pI o)),.o (.g [pI a.op,pI a.n,pLs cE a.l]),.o (.g [pI b.op,pI b.n,pLs cE b.l])] (.o (.g [pI o,pV (.int .i64 0),pLs cE v1])):=
 zj (zl (F:=FL [pI o,pI a.op,pI a.n,pLs cE a.l,pI b.op,pI b.n,pLs cE b.l,pLs cE v1] []) (C:=[(1000006,.dat 31 2 [.h 1,.h 2,.h 3,.h 4,.h 5,.h 6] 7)]) (k:=⟨20,[.o (.c (.h 0)),.o (.g [.h 1,.h 2,.h 3]),.o (.g [.h 4,.h 5,.h 6])],[],.o (.g [.h 0,.k (.int .i64 0),.h 7]),[]⟩) 0 (zi ⟨zb rfl,zb rfl,zb rfl,(ze (zh rfl)),zb rfl,zb rfl,(ze (zh rfl)),(ze (zh rfl)),trivial⟩) ⟨e_dat (c:=cE) (ps:=(pI a.op::pI a.n::pLs cE a.l::pI b.op::pI b.n::pLs cE b.l::[])) (qs:=(pI a.op::pI a.n::pLs cE a.l::pI b.op::pI b.n::pLs cE b.l::[])) (by rw [← e1];rfl) rfl rfl ((flatE _).trans rfl) (pimps (fun _ _ _ h=>h) <| pimps (fun _ _ _ h=>h) <| pimps (fun _ _ _ h=>h) <| pimps (fun _ _ _ h=>h) <| pimps (fun _ _ _ h=>h) <| pimps (fun _ _ _ h=>h) <| zap) rfl,
  trivial⟩ mixed (by kernel_rfl)) rfl rfl rfl rfl
theorem x_opL {w0:World} (o:Int) (a b:Xp) (e:Xp) (he:Xp.mk o 0 [a,b]=e):Fun (KN w0) Tryd.prog 20 [.o (.c (pI o)),.o (.g [pI a.op,pI a.n,pLs cE a.l]),.o (.g [pI b.op,pI b.n,pLs cE b.l])] (.o (.g [pI e.op,pI e.n,pLs cE e.l])):=by
 subst he;exact zll o a b _ rfl
theorem zjN {w0:World} (e:Xp) (w:Int) (l:(List Int)) (v1:Int) (v2:Int) (v4:Bool) (v6:Bool) (e1:((evalE e l).1)=v1) (e2:((evalE e l).2)=v2) (e4:((v2 == (0:Int)))=v4) (e6:((v1 == w))=v6) (s3:nodes e≤1000000) (h5:v4=true):Fun (KN w0) Tryd.prog 28 [.o (.g [pI e.op,pI e.n,pLs cE e.l]),.o (.c (pI w)),.o (.c (pLs cI l))] (.o (.c (pB v6))):=
 zj (zl (F:=FL [pI e.op,pI e.n,pLs cE e.l,pI w,pLs cI l,pI v1,pI v2,pB v4,pB v6] []) (C:=[(1000004,.call ⟨13,[.o (.g [.h 0,.h 1,.h 2]),.o (.c (.h 4))],[],.t [.c (.h 5),.c (.h 6)],[]⟩),
  (1000011,.bin .eql 33 (LF (.h 6)) (LF (.k (.int .i64 0))) (LF (.h 7))),
  (10007,.fb 7 true),
  (1000015,.bin .eql 3 (LF (.h 5)) (LF (.h 3)) (LF (.h 8)))]) (k:=⟨28,[.o (.g [.h 0,.h 1,.h 2]),.o (.c (.h 3)),.o (.c (.h 4))],[],.o (.c (.h 8)),[]⟩) 0 (zi ⟨zb rfl,zb rfl,(ze (zh rfl)),zb rfl,(ze zf),zb rfl,zb rfl,zb rfl,zb rfl,trivial⟩) ⟨zg (zr e l v1 v2 e1 e2 s3) rfl rfl rfl rfl,
  e_bin (za rfl) zc (za rfl) (r_cmp (congrArg some e4)),
  e_fb (show pV (.bool v4)=_ by rw [h5]),
  e_bin (za rfl) (za rfl) (za rfl) (r_cmp (congrArg some e6)),
  trivial⟩ mixed (by kernel_rfl)) rfl rfl rfl rfl
theorem zjO {w0:World} (e:Xp) (w:Int) (l:(List Int)) (v1:Int) (v2:Int) (v4:Bool) (e1:((evalE e l).1)=v1) (e2:((evalE e l).2)=v2) (e4:((v2 == (0:Int)))=v4) (s3:nodes e≤1000000) (h5:v4=false):Fun (KN w0) Tryd.prog 28 [.o (.g [pI e.op,pI e.n,pLs cE e.l]),.o (.c (pI w)),.o (.c (pLs cI l))] (.o (.c (pV (.bool false)))):=
 zj (zl (F:=FL [pI e.op,pI e.n,pLs cE e.l,pI w,pLs cI l,pI v1,pI v2,pB v4] []) (C:=[(1000004,.call ⟨13,[.o (.g [.h 0,.h 1,.h 2]),.o (.c (.h 4))],[],.t [.c (.h 5),.c (.h 6)],[]⟩),
  (1000011,.bin .eql 33 (LF (.h 6)) (LF (.k (.int .i64 0))) (LF (.h 7))),
  (10007,.fb 7 false)]) (k:=⟨28,[.o (.g [.h 0,.h 1,.h 2]),.o (.c (.h 3)),.o (.c (.h 4))],[],.o (.c (.k (.bool false))),[]⟩) 0 (zi ⟨zb rfl,zb rfl,(ze (zh rfl)),zb rfl,(ze zf),zb rfl,zb rfl,zb rfl,trivial⟩) ⟨zg (zr e l v1 v2 e1 e2 s3) rfl rfl rfl rfl,
  e_bin (za rfl) zc (za rfl) (r_cmp (congrArg some e4)),
  e_fb (show pV (.bool v4)=_ by rw [h5]),
  trivial⟩ mixed (by kernel_rfl)) rfl rfl rfl rfl
theorem x_isL {w0:World} (e:Xp) (w:Int) (l:List Int) (r:Bool) (hr:((evalE e l).2 == 0 && (evalE e l).1 == w)=r) (hn:nodes e≤1000000):Fun (KN w0) Tryd.prog 28 [.o (.g [pI e.op,pI e.n,pLs cE e.l]),.o (.c (pI w)),.o (.c (pLs cI l))] (.o (.c (pB r))):=by
 obtain ⟨v1,e1⟩:∃v,((evalE e l).1)=v:=⟨_,rfl⟩
 obtain ⟨v2,e2⟩:∃v,((evalE e l).2)=v:=⟨_,rfl⟩
 have s3:nodes e≤1000000:=by exact hn
 obtain ⟨v4,e4⟩:∃v,((v2 == (0:Int)))=v:=⟨_,rfl⟩
 cases h5:v4 with
 | true =>
  obtain ⟨v6,e6⟩:∃v,((v1 == w))=v:=⟨_,rfl⟩
  refine Fun.imp (zjN e w l v1 v2 v4 v6 e1 e2 e4 e6 s3 h5) (fun _ _ _ h=>h) (fun v W D h=>?_)
  have r0:r=v6:=by
   (rw [← hr];simp_all)
  rw [r0];exact h
 | false =>
  refine Fun.imp (zjO e w l v1 v2 v4 e1 e2 e4 s3 h5) (fun _ _ _ h=>h) (fun v W D h=>?_)
  have r0:r=false:=by
   (rw [← hr];simp_all)
  rw [r0];exact h
theorem zft {w0:World} (e:Xp) (w:Int) (l:(List Int)) (v1:Int) (v2:Int) (v4:Bool) (v6:Bool) (e1:((evalE e l).1)=v1) (e2:((evalE e l).2)=v2) (e4:((v2 == w))=v4) (e6:((v1 == (0:Int)))=v6) (s3:nodes e≤1000000) (h5:v4=true):Fun (KN w0) Tryd.prog 29 [.o (.g [pI e.op,pI e.n,pLs cE e.l]),.o (.c (pI w)),.o (.c (pLs cI l))] (.o (.c (pB v6))):=
 zj (zl (F:=FL [pI e.op,pI e.n,pLs cE e.l,pI w,pLs cI l,pI v1,pI v2,pB v4,pB v6] []) (C:=[(1000004,.call ⟨13,[.o (.g [.h 0,.h 1,.h 2]),.o (.c (.h 4))],[],.t [.c (.h 5),.c (.h 6)],[]⟩),
  (1000012,.bin .eql 33 (LF (.h 6)) (LF (.h 3)) (LF (.h 7))),
  (10007,.fb 7 true),
  (1000015,.bin .eql 3 (LF (.h 5)) (LF (.k (.int .i64 0))) (LF (.h 8)))]) (k:=⟨29,[.o (.g [.h 0,.h 1,.h 2]),.o (.c (.h 3)),.o (.c (.h 4))],[],.o (.c (.h 8)),[]⟩) 0 (zi ⟨zb rfl,zb rfl,(ze (zh rfl)),zb rfl,(ze zf),zb rfl,zb rfl,zb rfl,zb rfl,trivial⟩) ⟨zg (zr e l v1 v2 e1 e2 s3) rfl rfl rfl rfl,
  e_bin (za rfl) (za rfl) (za rfl) (r_cmp (congrArg some e4)),
  e_fb (show pV (.bool v4)=_ by rw [h5]),
  e_bin (za rfl) zc (za rfl) (r_cmp (congrArg some e6)),
  trivial⟩ mixed (by kernel_rfl)) rfl rfl rfl rfl
theorem zfu {w0:World} (e:Xp) (w:Int) (l:(List Int)) (v1:Int) (v2:Int) (v4:Bool) (e1:((evalE e l).1)=v1) (e2:((evalE e l).2)=v2) (e4:((v2 == w))=v4) (s3:nodes e≤1000000) (h5:v4=false):Fun (KN w0) Tryd.prog 29 [.o (.g [pI e.op,pI e.n,pLs cE e.l]),.o (.c (pI w)),.o (.c (pLs cI l))] (.o (.c (pV (.bool false)))):=
 zj (zl (F:=FL [pI e.op,pI e.n,pLs cE e.l,pI w,pLs cI l,pI v1,pI v2,pB v4] []) (C:=[(1000004,.call ⟨13,[.o (.g [.h 0,.h 1,.h 2]),.o (.c (.h 4))],[],.t [.c (.h 5),.c (.h 6)],[]⟩),
  (1000012,.bin .eql 33 (LF (.h 6)) (LF (.h 3)) (LF (.h 7))),
  (10007,.fb 7 false)]) (k:=⟨29,[.o (.g [.h 0,.h 1,.h 2]),.o (.c (.h 3)),.o (.c (.h 4))],[],.o (.c (.k (.bool false))),[]⟩) 0 (zi ⟨zb rfl,zb rfl,(ze (zh rfl)),zb rfl,(ze zf),zb rfl,zb rfl,zb rfl,trivial⟩) ⟨zg (zr e l v1 v2 e1 e2 s3) rfl rfl rfl rfl,
  e_bin (za rfl) (za rfl) (za rfl) (r_cmp (congrArg some e4)),
  e_fb (show pV (.bool v4)=_ by rw [h5]),
  trivial⟩ mixed (by kernel_rfl)) rfl rfl rfl rfl
theorem zdw {w0:World} (e:Xp) (w:Int) (l:List Int) (r:Bool) (hr:((evalE e l).2 == w && (evalE e l).1 == 0)=r) (hn:nodes e≤1000000):Fun (KN w0) Tryd.prog 29 [.o (.g [pI e.op,pI e.n,pLs cE e.l]),.o (.c (pI w)),.o (.c (pLs cI l))] (.o (.c (pB r))):=by
 obtain ⟨v1,e1⟩:∃v,((evalE e l).1)=v:=⟨_,rfl⟩
 obtain ⟨v2,e2⟩:∃v,((evalE e l).2)=v:=⟨_,rfl⟩
 have s3:nodes e≤1000000:=by exact hn
 obtain ⟨v4,e4⟩:∃v,((v2 == w))=v:=⟨_,rfl⟩
 cases h5:v4 with
 | true =>
  obtain ⟨v6,e6⟩:∃v,((v1 == (0:Int)))=v:=⟨_,rfl⟩
  refine Fun.imp (zft e w l v1 v2 v4 v6 e1 e2 e4 e6 s3 h5) (fun _ _ _ h=>h) (fun v W D h=>?_)
  have r0:r=v6:=by
   (rw [← hr];simp_all)
  rw [r0];exact h
 | false =>
  refine Fun.imp (zfu e w l v1 v2 v4 e1 e2 e4 s3 h5) (fun _ _ _ h=>h) (fun v W D h=>?_)
  have r0:r=false:=by
   (rw [← hr];simp_all)
  rw [r0];exact h
theorem zhd {w0:World} (hL:LibT w0) (v1:Xp) (v2:Xp) (v3:Xp) (v4:Xp) (v5:Xp) (v6:(List Int)) (v7:Bool) (v10:Bool) (v13:(List Int)) (v14:Bool) (v17:Xp) (v18:Xp) (v19:Xp) (v20:(List Int)) (v21:Bool) (v24:Xp) (v25:Xp) (v26:Xp) (v27:Xp) (v28:Xp) (v29:Bool) (v31:Xp) (v32:Bool) (v36:Xp) (v37:Xp) (v38:Xp) (v39:Bool) (v41:Xp) (v42:Bool) (v46:Bool) (v48:Bool) (v50:Xp) (v51:Bool) (v55:Bool) (v57:Bool) (v59:Xp) (v60:Bool) (v64:Bool) (v66:Bool) (v68:Xp) (v69:Bool) (v73:Bool) (v75:Bool) (v77:Xp) (v78:Bool) (v82:Bool) (v84:Bool) (v86:Xp) (v87:(List UInt8)) (v88:Bool) (v90:Xp) (v91:(List UInt8)) (v92:Bool) (v97:Bool) (v99:Bool) (v101:Bool) (v104:Bool) (v106:Bool) (e1:((Xp.mk 2 (0:Int) []))=v1) (e2:((Xp.mk 1 (3:Int) []))=v2) (e3:((Xp.mk (5:Int) 0 [v1,v2]))=v3) (e4:((Xp.mk 1 (-2:Int) []))=v4) (e5:((Xp.mk (3:Int) 0 [v3,v4]))=v5) (e6:(([(5:Int)]:List Int))=v6) (e7:(((evalE v5 v6).2 == 0 && (evalE v5 v6).1 == (13:Int)))=v7) (e10:(((evalE v5 []).2 == (1:Int) && (evalE v5 []).1 == 0))=v10) (e13:(([(1048576:Int)]:List Int))=v13) (e14:(((evalE v5 v13).2 == (3:Int) && (evalE v5 v13).1 == 0))=v14) (e17:((Xp.mk 2 (1:Int) []))=v17) (e18:((Xp.mk 2 (0:Int) []))=v18) (e19:((Xp.mk (7:Int) 0 [v17,v18]))=v19) (e20:(([(4:Int),(9:Int)]:List Int))=v20) (e21:(((evalE v19 v20).2 == 0 && (evalE v19 v20).1 == (9:Int)))=v21) (e24:((Xp.mk 1 (0:Int) []))=v24) (e25:((Xp.mk 1 (1048576:Int) []))=v25) (e26:((Xp.mk 1 (2:Int) []))=v26) (e27:((Xp.mk (5:Int) 0 [v25,v26]))=v27) (e28:((Xp.mk (6:Int) 0 [v24,v27]))=v28) (e29:(((evalE v28 []).2 == (3:Int) && (evalE v28 []).1 == 0))=v29) (e31:(parE [40,45,32,49,32,36,50,41])=v31) (e32:(parO [40,45,32,49,32,36,50,41])=v32) (e36:((Xp.mk 1 (1:Int) []))=v36) (e37:((Xp.mk 2 (2:Int) []))=v37) (e38:((Xp.mk (4:Int) 0 [v36,v37]))=v38) (e39:(sameX v31 v38)=v39) (e41:(parE [40,43,32,49,41])=v41) (e42:(parO [40,43,32,49,41])=v42) (e46:(!v42)=v46) (e48:(sameX v41 X0)=v48) (e50:(parE [48,49])=v50) (e51:(parO [48,49])=v51) (e55:(!v51)=v55) (e57:(sameX v50 X0)=v57) (e59:(parE [36,52])=v59) (e60:(parO [36,52])=v60) (e64:(!v60)=v64) (e66:(sameX v59 X0)=v66) (e68:(parE [40,43,32,49,32,32,50,41])=v68) (e69:(parO [40,43,32,49,32,32,50,41])=v69) (e73:(!v69)=v73) (e75:(sameX v68 X0)=v75) (e77:(parE [49,48,52,56,53,55,55])=v77) (e78:(parO [49,48,52,56,53,55,55])=v78) (e82:(!v78)=v82) (e84:(sameX v77 X0)=v84) (e86:((Xp.mk 1 (-5:Int) []))=v86) (e87:(textX v86)=v87) (e88:(textO v86)=v88) (e90:((Xp.mk 1 (2097152:Int) []))=v90) (e91:(textX v90)=v91) (e92:(textO v90)=v92) (e97:(((v87:List UInt8) == [45,53]))=v97) (e99:(!v92)=v99) (e101:(sameX v5 v5)=v101) (e104:(sameX v5 v31)=v104) (e106:(!v104)=v106) (s8:nodes v5≤1000000) (h9:v7=true) (s11:nodes v5≤1000000) (h12:v10=true) (s15:nodes v5≤1000000) (h16:v14=true) (s22:nodes v19≤1000000) (h23:v21=true) (s30:nodes v28≤1000000) (s33:IxAll w0 [40,45,32,49,32,36,50,41]) (s34:([40,45,32,49,32,36,50,41]:List UInt8).length≤1000000) (h35:v32=true) (s40:nodes v31≤1000000) (s43:IxAll w0 [40,43,32,49,41]) (s44:([40,43,32,49,41]:List UInt8).length≤1000000) (h45:v39=true) (h47:v46=true) (s49:nodes v41≤1000000) (s52:IxAll w0 [48,49]) (s53:([48,49]:List UInt8).length≤1000000) (h54:v48=true) (h56:v55=true) (s58:nodes v50≤1000000) (s61:IxAll w0 [36,52]) (s62:([36,52]:List UInt8).length≤1000000) (h63:v57=true) (h65:v64=true) (s67:nodes v59≤1000000) (s70:IxAll w0 [40,43,32,49,32,32,50,41]) (s71:([40,43,32,49,32,32,50,41]:List UInt8).length≤1000000) (h72:v66=true) (h74:v73=true) (s76:nodes v68≤1000000) (s79:IxAll w0 [49,48,52,56,53,55,55]) (s80:([49,48,52,56,53,55,55]:List UInt8).length≤1000000) (h81:v75=true) (h83:v82=true) (s85:nodes v77≤1000000) (s89:nodes v86≤1000000) (s93:nodes v90≤1000000) (h94:v29=true) (h95:v84=true) (h96:v88=true) (h98:v97=true) (h100:v99=true) (s102:nodes v5≤1000000) (h103:v101=true) (s105:nodes v5≤1000000):Fun (KN w0) Tryd.prog 8 [] (.o (.c (pB v106))):=
 zj (zA (F:=FL (pI v1.op::pI v1.n::pLs cE v1.l::pI v2.op::pI v2.n::pLs cE v2.l::pI v3.op::pI v3.n::pLs cE v3.l::pI v4.op::pI v4.n::pLs cE v4.l::pI v5.op::pI v5.n::pLs cE v5.l::pLs cI v6::pB v7::pB v10::pLs cI v13::pB v14::pI v17.op::pI v17.n::pLs cE v17.l::pI v18.op::pI v18.n::pLs cE v18.l::pI v19.op::pI v19.n::pLs cE v19.l::pLs cI v20::pB v21::pI v24.op::pI v24.n::pLs cE v24.l::pI v25.op::pI v25.n::pLs cE v25.l::pI v26.op::pI v26.n::pLs cE v26.l::pI v27.op::pI v27.n::pLs cE v27.l::pI v28.op::pI v28.n::pLs cE v28.l::pB v29::pI v31.op::pI v31.n::pLs cE v31.l::pB v32::pI v36.op::pI v36.n::pLs cE v36.l::pI v37.op::pI v37.n::pLs cE v37.l::pI v38.op::pI v38.n::pLs cE v38.l::pB v39::pI v41.op::pI v41.n::pLs cE v41.l::pB v42::pB v46::pB v48::pI v50.op::pI v50.n::pLs cE v50.l::pB v51::pB v55::pB v57::pI v59.op::pI v59.n::pLs cE v59.l::pB v60::pB v64::pB v66::pI v68.op::pI v68.n::pLs cE v68.l::pB v69::pB v73::pB v75::pI v77.op::pI v77.n::pLs cE v77.l::pB v78::pB v82::pB v84::pI v86.op::pI v86.n::pLs cE v86.l::pS v87::pB v88::pI v90.op::pI v90.n::pLs cE v90.l::pS v91::pB v92::pB v97::pB v99::pB v101::pB v104::pB v106::[]) []) (C:=((1000001,.call ⟨26,[.o (.c (.k (.int .i64 0)))],[],.o (.g [.h 0,.h 1,.h 2]),[]⟩) ::
  (1000002,.call ⟨27,[.o (.c (.k (.int .i64 3)))],[],.o (.g [.h 3,.h 4,.h 5]),[]⟩) ::
  (1000003,.call ⟨20,[.o (.c (.k (.int .i64 5))),.o (.g [.h 0,.h 1,.h 2]),.o (.g [.h 3,.h 4,.h 5])],[],.o (.g [.h 6,.h 7,.h 8]),[]⟩) ::
  (1000004,.call ⟨27,[.o (.c (.k (.int .i64 (-2))))],[],.o (.g [.h 9,.h 10,.h 11]),[]⟩) ::
  (1000005,.call ⟨20,[.o (.c (.k (.int .i64 3))),.o (.g [.h 6,.h 7,.h 8]),.o (.g [.h 9,.h 10,.h 11])],[],.o (.g [.h 12,.h 13,.h 14]),[]⟩) ::
  (1000009,.dat 3 1 [.k (.int .i64 5)] 15) ::
  (1000010,.call ⟨28,[.o (.g [.h 12,.h 13,.h 14]),.o (.c (.k (.int .i64 13))),.o (.c (.h 15))],[],.o (.c (.h 16)),[]⟩) ::
  (10016,.fb 16 true) ::
  (1000013,.call ⟨29,[.o (.g [.h 12,.h 13,.h 14]),.o (.c (.k (.int .i64 1))),.o (.c (.k (.slice none 0 0)))],[],.o (.c (.h 17)),[]⟩) ::
  (10017,.fb 17 true) ::
  (1000017,.dat 3 1 [.k (.int .i64 1048576)] 18) ::
  (1000018,.call ⟨29,[.o (.g [.h 12,.h 13,.h 14]),.o (.c (.k (.int .i64 3))),.o (.c (.h 18))],[],.o (.c (.h 19)),[]⟩) ::
  (10019,.fb 19 true) ::
  (1000021,.call ⟨26,[.o (.c (.k (.int .i64 1)))],[],.o (.g [.h 20,.h 21,.h 22]),[]⟩) ::
  (1000022,.call ⟨26,[.o (.c (.k (.int .i64 0)))],[],.o (.g [.h 23,.h 24,.h 25]),[]⟩) ::
  (1000023,.call ⟨20,[.o (.c (.k (.int .i64 7))),.o (.g [.h 20,.h 21,.h 22]),.o (.g [.h 23,.h 24,.h 25])],[],.o (.g [.h 26,.h 27,.h 28]),[]⟩) ::
  (1000024,.dat 3 2 [.k (.int .i64 4),.k (.int .i64 9)] 29) ::
  (1000025,.call ⟨28,[.o (.g [.h 26,.h 27,.h 28]),.o (.c (.k (.int .i64 9))),.o (.c (.h 29))],[],.o (.c (.h 30)),[]⟩) ::
  (10030,.fb 30 true) ::
  (1000028,.call ⟨27,[.o (.c (.k (.int .i64 0)))],[],.o (.g [.h 31,.h 32,.h 33]),[]⟩) ::
  (1000029,.call ⟨27,[.o (.c (.k (.int .i64 1048576)))],[],.o (.g [.h 34,.h 35,.h 36]),[]⟩) ::
  (1000030,.call ⟨27,[.o (.c (.k (.int .i64 2)))],[],.o (.g [.h 37,.h 38,.h 39]),[]⟩) ::
  (1000031,.call ⟨20,[.o (.c (.k (.int .i64 5))),.o (.g [.h 34,.h 35,.h 36]),.o (.g [.h 37,.h 38,.h 39])],[],.o (.g [.h 40,.h 41,.h 42]),[]⟩) ::
  (1000032,.call ⟨20,[.o (.c (.k (.int .i64 6))),.o (.g [.h 31,.h 32,.h 33]),.o (.g [.h 40,.h 41,.h 42])],[],.o (.g [.h 43,.h 44,.h 45]),[]⟩) ::
  (1000033,.call ⟨29,[.o (.g [.h 43,.h 44,.h 45]),.o (.c (.k (.int .i64 3))),.o (.c (.k (.slice none 0 0)))],[],.o (.c (.h 46)),[]⟩) ::
  (1000036,.call ⟨17,[.o (.c (.k (.string ⟨#[40,45,32,49,32,36,50,41]⟩)))],[],.t [.g [.h 47,.h 48,.h 49],.c (.h 50)],[]⟩) ::
  (10050,.fb 50 true) ::
  (1000046,.call ⟨27,[.o (.c (.k (.int .i64 1)))],[],.o (.g [.h 51,.h 52,.h 53]),[]⟩) ::
  (1000047,.call ⟨26,[.o (.c (.k (.int .i64 2)))],[],.o (.g [.h 54,.h 55,.h 56]),[]⟩) ::
  (1000048,.call ⟨20,[.o (.c (.k (.int .i64 4))),.o (.g [.h 51,.h 52,.h 53]),.o (.g [.h 54,.h 55,.h 56])],[],.o (.g [.h 57,.h 58,.h 59]),[]⟩) ::
  (1000049,.call ⟨16,[.o (.g [.h 47,.h 48,.h 49]),.o (.g [.h 57,.h 58,.h 59])],[],.o (.c (.h 60)),[]⟩) ::
  (1000053,.op (.len [58] 3) [LF (.s 52 0 5 5)] [] (LF (.k (.int .i64 5)))) ::
  (1000060,.call ⟨17,[.o (.c (.k (.string ⟨#[40,43,32,49,41]⟩)))],[],.t [.g [.h 61,.h 62,.h 63],.c (.h 64)],[]⟩) ::
  (10060,.fb 60 true) ::
  (1000070,.un .not (LF (.h 64)) (LF (.h 65))) ::
  (10065,.fb 65 true) ::
  (1000075,.call ⟨16,[.o (.g [.h 61,.h 62,.h 63]),.o (.g [.k (.int .i64 0),.k (.int .i64 0),.k (.slice none 0 0)])],[],.o (.c (.h 66)),[]⟩) ::
  (1000078,.bin .add 3 (LF (.k (.int .i64 0))) (LF (.k (.int .i64 1))) (LF (.k (.int .i64 1)))) ::
  (1000085,.call ⟨17,[.o (.c (.k (.string ⟨#[48,49]⟩)))],[],.t [.g [.h 67,.h 68,.h 69],.c (.h 70)],[]⟩) ::
  (10066,.fb 66 true) ::
  (1000095,.un .not (LF (.h 70)) (LF (.h 71))) ::
  (10071,.fb 71 true) ::
  (1000100,.call ⟨16,[.o (.g [.h 67,.h 68,.h 69]),.o (.g [.k (.int .i64 0),.k (.int .i64 0),.k (.slice none 0 0)])],[],.o (.c (.h 72)),[]⟩) ::
  (1000103,.bin .add 3 (LF (.k (.int .i64 1))) (LF (.k (.int .i64 1))) (LF (.k (.int .i64 2)))) ::
  (1000110,.call ⟨17,[.o (.c (.k (.string ⟨#[36,52]⟩)))],[],.t [.g [.h 73,.h 74,.h 75],.c (.h 76)],[]⟩) ::
  (10072,.fb 72 true) ::
  (1000120,.un .not (LF (.h 76)) (LF (.h 77))) ::
  (10077,.fb 77 true) ::
  (1000125,.call ⟨16,[.o (.g [.h 73,.h 74,.h 75]),.o (.g [.k (.int .i64 0),.k (.int .i64 0),.k (.slice none 0 0)])],[],.o (.c (.h 78)),[]⟩) ::
  (1000128,.bin .add 3 (LF (.k (.int .i64 2))) (LF (.k (.int .i64 1))) (LF (.k (.int .i64 3)))) ::
  (1000135,.call ⟨17,[.o (.c (.k (.string ⟨#[40,43,32,49,32,32,50,41]⟩)))],[],.t [.g [.h 79,.h 80,.h 81],.c (.h 82)],[]⟩) ::
  (10078,.fb 78 true) ::
  (1000145,.un .not (LF (.h 82)) (LF (.h 83))) ::
  (10083,.fb 83 true) ::
  (1000150,.call ⟨16,[.o (.g [.h 79,.h 80,.h 81]),.o (.g [.k (.int .i64 0),.k (.int .i64 0),.k (.slice none 0 0)])],[],.o (.c (.h 84)),[]⟩) ::
  (1000153,.bin .add 3 (LF (.k (.int .i64 3))) (LF (.k (.int .i64 1))) (LF (.k (.int .i64 4)))) ::
  (1000160,.call ⟨17,[.o (.c (.k (.string ⟨#[49,48,52,56,53,55,55]⟩)))],[],.t [.g [.h 85,.h 86,.h 87],.c (.h 88)],[]⟩) ::
  (10084,.fb 84 true) ::
  (1000170,.un .not (LF (.h 88)) (LF (.h 89))) ::
  (10089,.fb 89 true) ::
  (1000175,.call ⟨16,[.o (.g [.h 85,.h 86,.h 87]),.o (.g [.k (.int .i64 0),.k (.int .i64 0),.k (.slice none 0 0)])],[],.o (.c (.h 90)),[]⟩) ::
  (1000178,.bin .add 3 (LF (.k (.int .i64 4))) (LF (.k (.int .i64 1))) (LF (.k (.int .i64 5)))) ::
  (1000181,.call ⟨27,[.o (.c (.k (.int .i64 (-5))))],[],.o (.g [.h 91,.h 92,.h 93]),[]⟩) ::
  (1000182,.call ⟨18,[.o (.g [.h 91,.h 92,.h 93])],[],.t [.c (.h 94),.c (.h 95)],[]⟩) ::
  (1000188,.call ⟨27,[.o (.c (.k (.int .i64 2097152)))],[],.o (.g [.h 96,.h 97,.h 98]),[]⟩) ::
  (1000189,.call ⟨18,[.o (.g [.h 96,.h 97,.h 98])],[],.t [.c (.h 99),.c (.h 100)],[]⟩) ::
  (10046,.fb 46 true) ::
  (10090,.fb 90 true) ::
  (10095,.fb 95 true) ::
  (1000204,.bin .eql 9 (LF (.h 94)) (LF (.k (.string ⟨#[45,53]⟩))) (LF (.h 101))) ::
  (10101,.fb 101 true) ::
  (1000208,.un .not (LF (.h 100)) (LF (.h 102))) ::
  (10102,.fb 102 true) ::
  (1000213,.call ⟨15,[.o (.g [.h 12,.h 13,.h 14]),.o (.g [.h 12,.h 13,.h 14])],[],.o (.c (.h 103)),[]⟩) ::
  (10103,.fb 103 true) ::
  (1000218,.call ⟨15,[.o (.g [.h 12,.h 13,.h 14]),.o (.g [.h 47,.h 48,.h 49])],[],.o (.c (.h 104)),[]⟩) ::
  (1000219,.un .not (LF (.h 104)) (LF (.h 105)))::[]:List (Nat×Ent))) (k:=⟨8,[],[],.o (.c (.h 105)),[]⟩) ⟨[],[],6⟩ [] 0 (zi ⟨zb rfl,zb rfl,(ze (zh rfl)),zb rfl,zb rfl,(ze (zh rfl)),zb rfl,zb rfl,(ze (zh rfl)),zb rfl,zb rfl,(ze (zh rfl)),zb rfl,zb rfl,(ze (zh rfl)),(ze zf),zb rfl,zb rfl,(ze zf),zb rfl,zb rfl,zb rfl,(ze (zh rfl)),zb rfl,zb rfl,(ze (zh rfl)),zb rfl,zb rfl,(ze (zh rfl)),(ze zf),zb rfl,zb rfl,zb rfl,(ze (zh rfl)),zb rfl,zb rfl,(ze (zh rfl)),zb rfl,zb rfl,(ze (zh rfl)),zb rfl,zb rfl,(ze (zh rfl)),zb rfl,zb rfl,(ze (zh rfl)),zb rfl,zb rfl,zb rfl,(ze (zh rfl)),zb rfl,zb rfl,zb rfl,(ze (zh rfl)),zb rfl,zb rfl,(ze (zh rfl)),zb rfl,zb rfl,(ze (zh rfl)),zb rfl,zb rfl,zb rfl,(ze (zh rfl)),zb rfl,zb rfl,zb rfl,zb rfl,zb rfl,(ze (zh rfl)),zb rfl,zb rfl,zb rfl,zb rfl,zb rfl,(ze (zh rfl)),zb rfl,zb rfl,zb rfl,zb rfl,zb rfl,(ze (zh rfl)),zb rfl,zb rfl,zb rfl,zb rfl,zb rfl,(ze (zh rfl)),zb rfl,zb rfl,zb rfl,zb rfl,zb rfl,(ze (zh rfl)),zb rfl,zb rfl,zb rfl,zb rfl,(ze (zh rfl)),zb rfl,zb rfl,zb rfl,zb rfl,zb rfl,zb rfl,zb rfl,trivial⟩) ⟨zg (x_arg (0:Int) v1 e1) rfl rfl rfl rfl,
  zg (x_num (3:Int) v2 e2) rfl rfl rfl rfl,
  zg (x_opL (5:Int) v1 v2 v3 e3) rfl rfl rfl rfl,
  zg (x_num (-2:Int) v4 e4) rfl rfl rfl rfl,
  zg (x_opL (3:Int) v3 v4 v5 e5) rfl rfl rfl rfl,
  e_dat (c:=cI) (ps:=(pV (.int .i64 5)::[])) (qs:=(pI (5:Int)::[])) (by rw [← e6];rfl) rfl rfl rfl (pimps (fun _ _ _ h=>h) <| zap) rfl,
  zg (x_isL v5 (13:Int) v6 v7 e7 s8) rfl rfl rfl rfl,
  e_fb (show pV (.bool v7)=_ by rw [h9]),
  zg (Fun.imp (as2:=[.o (.g [pI v5.op,pI v5.n,pLs cE v5.l]),.o (.c (pV (.int .i64 1))),.o (.c (pV (.slice none 0 0)))]) (zdw v5 (1:Int) [] v10 e10 s11) (zaF ⟨fun _ _ _ h=>h,fun _ _ _ h=>h,fun _ _ _ h=>zjh h,trivial⟩) (fun _ _ _ h=>h)) rfl rfl rfl rfl,
  e_fb (show pV (.bool v10)=_ by rw [h12]),
  e_dat (c:=cI) (ps:=(pV (.int .i64 1048576)::[])) (qs:=(pI (1048576:Int)::[])) (by rw [← e13];rfl) rfl rfl rfl (pimps (fun _ _ _ h=>h) <| zap) rfl,
  zg (zdw v5 (3:Int) v13 v14 e14 s15) rfl rfl rfl rfl,
  e_fb (show pV (.bool v14)=_ by rw [h16]),
  zg (x_arg (1:Int) v17 e17) rfl rfl rfl rfl,
  zg (x_arg (0:Int) v18 e18) rfl rfl rfl rfl,
  zg (x_opL (7:Int) v17 v18 v19 e19) rfl rfl rfl rfl,
  e_dat (c:=cI) (ps:=(pV (.int .i64 4)::pV (.int .i64 9)::[])) (qs:=(pI (4:Int)::pI (9:Int)::[])) (by rw [← e20];rfl) rfl rfl rfl (pimps (fun _ _ _ h=>h) <| pimps (fun _ _ _ h=>h) <| zap) rfl,
  zg (x_isL v19 (9:Int) v20 v21 e21 s22) rfl rfl rfl rfl,
  e_fb (show pV (.bool v21)=_ by rw [h23]),
  zg (x_num (0:Int) v24 e24) rfl rfl rfl rfl,
  zg (x_num (1048576:Int) v25 e25) rfl rfl rfl rfl,
  zg (x_num (2:Int) v26 e26) rfl rfl rfl rfl,
  zg (x_opL (5:Int) v25 v26 v27 e27) rfl rfl rfl rfl,
  zg (x_opL (6:Int) v24 v27 v28 e28) rfl rfl rfl rfl,
  zg (Fun.imp (as2:=[.o (.g [pI v28.op,pI v28.n,pLs cE v28.l]),.o (.c (pV (.int .i64 3))),.o (.c (pV (.slice none 0 0)))]) (zdw v28 (3:Int) [] v29 e29 s30) (zaF ⟨fun _ _ _ h=>h,fun _ _ _ h=>h,fun _ _ _ h=>zjh h,trivial⟩) (fun _ _ _ h=>h)) rfl rfl rfl rfl,
  zg (zbJ hL [40,45,32,49,32,36,50,41] v31 v32 e31 e32 s33 s34) rfl rfl rfl rfl,
  e_fb (show pV (.bool v32)=_ by rw [h35]),
  zg (x_num (1:Int) v36 e36) rfl rfl rfl rfl,
  zg (x_arg (2:Int) v37 e37) rfl rfl rfl rfl,
  zg (x_opL (4:Int) v36 v37 v38 e38) rfl rfl rfl rfl,
  zg (zbK v31 v38 v39 e39 s40) rfl rfl rfl rfl,
  zlr (E:=9) (by kernel_rfl),
  zg (zbJ hL [40,43,32,49,41] v41 v42 e41 e42 s43 s44) rfl rfl rfl rfl,
  e_fb (show pV (.bool v39)=_ by rw [h45]),
  e_un (za rfl) (za rfl) (fun W=>by rw [← e46];exact r_not W),
  e_fb (show pV (.bool v46)=_ by rw [h47]),
  zg (Fun.imp (as2:=[.o (.g [pI v41.op,pI v41.n,pLs cE v41.l]),.o (.g [pV (.int .i64 0),pV (.int .i64 0),pV (.slice none 0 0)])]) (zbK v41 X0 v48 e48 s49) (zaF ⟨fun _ _ _ h=>h,fun _ _ _ h=>zcA h,trivial⟩) (fun _ _ _ h=>h)) rfl rfl rfl rfl,
  e_bin zc zc zc (r_ar rfl),
  zg (zbJ hL [48,49] v50 v51 e50 e51 s52 s53) rfl rfl rfl rfl,
  e_fb (show pV (.bool v48)=_ by rw [h54]),
  e_un (za rfl) (za rfl) (fun W=>by rw [← e55];exact r_not W),
  e_fb (show pV (.bool v55)=_ by rw [h56]),
  zg (Fun.imp (as2:=[.o (.g [pI v50.op,pI v50.n,pLs cE v50.l]),.o (.g [pV (.int .i64 0),pV (.int .i64 0),pV (.slice none 0 0)])]) (zbK v50 X0 v57 e57 s58) (zaF ⟨fun _ _ _ h=>h,fun _ _ _ h=>zcA h,trivial⟩) (fun _ _ _ h=>h)) rfl rfl rfl rfl,
  e_bin zc zc zc (r_ar rfl),
  zg (zbJ hL [36,52] v59 v60 e59 e60 s61 s62) rfl rfl rfl rfl,
  e_fb (show pV (.bool v57)=_ by rw [h63]),
  e_un (za rfl) (za rfl) (fun W=>by rw [← e64];exact r_not W),
  e_fb (show pV (.bool v64)=_ by rw [h65]),
  zg (Fun.imp (as2:=[.o (.g [pI v59.op,pI v59.n,pLs cE v59.l]),.o (.g [pV (.int .i64 0),pV (.int .i64 0),pV (.slice none 0 0)])]) (zbK v59 X0 v66 e66 s67) (zaF ⟨fun _ _ _ h=>h,fun _ _ _ h=>zcA h,trivial⟩) (fun _ _ _ h=>h)) rfl rfl rfl rfl,
  e_bin zc zc zc (r_ar rfl),
  zg (zbJ hL [40,43,32,49,32,32,50,41] v68 v69 e68 e69 s70 s71) rfl rfl rfl rfl,
  e_fb (show pV (.bool v66)=_ by rw [h72]),
  e_un (za rfl) (za rfl) (fun W=>by rw [← e73];exact r_not W),
  e_fb (show pV (.bool v73)=_ by rw [h74]),
  zg (Fun.imp (as2:=[.o (.g [pI v68.op,pI v68.n,pLs cE v68.l]),.o (.g [pV (.int .i64 0),pV (.int .i64 0),pV (.slice none 0 0)])]) (zbK v68 X0 v75 e75 s76) (zaF ⟨fun _ _ _ h=>h,fun _ _ _ h=>zcA h,trivial⟩) (fun _ _ _ h=>h)) rfl rfl rfl rfl,
  e_bin zc zc zc (r_ar rfl),
  zg (zbJ hL [49,48,52,56,53,55,55] v77 v78 e77 e78 s79 s80) rfl rfl rfl rfl,
  e_fb (show pV (.bool v75)=_ by rw [h81]),
  e_un (za rfl) (za rfl) (fun W=>by rw [← e82];exact r_not W),
  e_fb (show pV (.bool v82)=_ by rw [h83]),
  zg (Fun.imp (as2:=[.o (.g [pI v77.op,pI v77.n,pLs cE v77.l]),.o (.g [pV (.int .i64 0),pV (.int .i64 0),pV (.slice none 0 0)])]) (zbK v77 X0 v84 e84 s85) (zaF ⟨fun _ _ _ h=>h,fun _ _ _ h=>zcA h,trivial⟩) (fun _ _ _ h=>h)) rfl rfl rfl rfl,
  e_bin zc zc zc (r_ar rfl),
  zg (x_num (-5:Int) v86 e86) rfl rfl rfl rfl,
  zg (zkz hL v86 v87 v88 e87 e88 s89) rfl rfl rfl rfl,
  zg (x_num (2097152:Int) v90 e90) rfl rfl rfl rfl,
  zg (zkz hL v90 v91 v92 e91 e92 s93) rfl rfl rfl rfl,
  e_fb (show pV (.bool v29)=_ by rw [h94]),
  e_fb (show pV (.bool v84)=_ by rw [h95]),
  e_fb (show pV (.bool v88)=_ by rw [h96]),
  e_bin (za rfl) zc (za rfl) (fun W X Y=>by rw [← e97];exact r_seq W X Y),
  e_fb (show pV (.bool v97)=_ by rw [h98]),
  e_un (za rfl) (za rfl) (fun W=>by rw [← e99];exact r_not W),
  e_fb (show pV (.bool v99)=_ by rw [h100]),
  zg (zkB v5 v5 v101 e101 s102) rfl rfl rfl rfl,
  e_fb (show pV (.bool v101)=_ by rw [h103]),
  zg (zkB v5 v31 v104 e104 s105) rfl rfl rfl rfl,
  e_un (za rfl) (za rfl) (fun W=>by rw [← e106];exact r_not W),
  trivial⟩ mixed trivial (fun _ _ _ _ _ hs=>by cases hs) (by kernel_rfl)) rfl rfl rfl rfl
end Go.Proofs.YtdkofaajcpcjkaaDoor
namespace Go.Proofs.YtdkofaajcpcjkaaDoor
open Go.RowKit
theorem it1:Lib.itoa 1=[49]:=qc (by decide) (by decide)
theorem it2:Lib.itoa 2=[50]:=qc (by decide) (by decide)
theorem it4:Lib.itoa 4=[52]:=qc (by decide) (by decide)
theorem it5:Lib.itoa (-5)=[45,53]:=by rw [zgu (by decide)];exact congrArg _ (qc (by decide) (by decide))
theorem itBig:Lib.itoa 1048577=[49,48,52,56,53,55,55]:=by
 rw [zam (by decide)]
 rw [show (1048577:Int).tdiv 10=104857 from rfl,zam (by decide)]
 rw [show (104857:Int).tdiv 10=10485 from rfl,zam (by decide)]
 rw [show (10485:Int).tdiv 10=1048 from rfl,zam (by decide)]
 rw [show (1048:Int).tdiv 10=104 from rfl,zam (by decide)]
 rw [show (104:Int).tdiv 10=10 from rfl,zam (by decide)]
 rw [qc (n:=(10:Int).tdiv 10) (by decide) (by decide),qc (n:=(10:Int).tmod 10) (by decide) (by decide),qc (n:=(104:Int).tmod 10) (by decide) (by decide),qc (n:=(1048:Int).tmod 10) (by decide) (by decide),qc (n:=(10485:Int).tmod 10) (by decide) (by decide),qc (n:=(104857:Int).tmod 10) (by decide) (by decide),qc (n:=(1048577:Int).tmod 10) (by decide) (by decide)]
 decide
theorem pz1:qA [40,45,32,49,32,36,50,41]=some (.mk 4 0 [.mk 1 1 [],.mk 2 2 []]):=zgF.2 ⟨by decide,by rw [zaL (by decide),qJ,q5,it1,it2];decide⟩
theorem iw1:intW [49]=some 1:=by rw [← it1];exact zal (by decide)
theorem iw4:intW [52]=some 4:=by rw [← it4];exact zal (by decide)
theorem iw01:intW [48,49]=none:=by
 unfold intW
 rw [if_neg]
 rintro ⟨h,_⟩
 rw [show valS [48,49]=1 by decide,it1] at h
 cases h
theorem zju:intW []=none:=by
 cases h:intW [] with
 | none=>rfl
 | some n=>exact absurd (zaC h).1.symm (zcf n)
theorem iwB:intW [49,48,52,56,53,55,55]=some 1048577:=by rw [← itBig];exact zal (by decide)
theorem pz2:qA [48,49]=none:=by
 have:readP 30 [48,49]=none:=by
  rw [readP]
  simp only [takeC,show wordW [48,49]=[48,49] by decide]
  simp [leafP,takeC,iw01]
 unfold qA;rw [this]
theorem pz3:qA [36,52]=none:=by
 have:readP 30 [36,52]=some (.mk 2 4 [],[]):=by
  rw [readP]
  simp only [takeC,show wordW [36,52]=[36,52] by decide,show restW [36,52]=[] by decide]
  simp [leafP,takeC,iw4]
 unfold qA;rw [this]
 decide
theorem pz4:qA [49,48,52,56,53,55,55]=none:=by
 have:readP 30 [49,48,52,56,53,55,55]=some (.mk 1 1048577 [],[]):=by
  rw [readP]
  simp only [takeC,show wordW [49,48,52,56,53,55,55]=[49,48,52,56,53,55,55] by decide,show restW [49,48,52,56,53,55,55]=[] by decide]
  simp [leafP,takeC,iwB]
 unfold qA;rw [this]
 decide
theorem rd1 (f:Nat) (r:List UInt8) (h:Del r):readP (f+1) (49::r)=some (.mk 1 1 [],r):=by
 have hw:=zb0 (w:=[49]) (r:=r) (by decide) h
 rw [readP]
 simp only [takeC]
 rw [if_neg (by decide)]
 simp only
 rw [show (49::r:List UInt8)=[49]++r from rfl,hw.1,hw.2]
 simp [leafP,takeC,iw1]
theorem pz5:qA [40,43,32,49,41]=none:=by
 have h0:takeC 40 [40,43,32,49,41]=some [43,32,49,41]:=by decide
 have h1:takeC 32 [32,49,41]=some [49,41]:=by decide
 have:readP 30 [40,43,32,49,41]=none:=by
  rw [readP,h0]
  simp only [show wordW [43,32,49,41]=[43] by decide,show restW [43,32,49,41]=[32,49,41] by decide,show opOf [43]=some 3 by decide,h1]
  rw [rd1 28 [41] (by intro b hb;injection hb with hb;subst hb;decide)]
  simp [takeC]
 unfold qA;rw [this]
theorem pz6:qA [40,43,32,49,32,32,50,41]=none:=by
 have h0:takeC 40 [40,43,32,49,32,32,50,41]=some [43,32,49,32,32,50,41]:=by decide
 have h1:takeC 32 [32,49,32,32,50,41]=some [49,32,32,50,41]:=by decide
 have h2:takeC 32 [32,32,50,41]=some [32,50,41]:=by decide
 have h3:takeC 40 [32,50,41]=none:=by decide
 have:readP 30 [40,43,32,49,32,32,50,41]=none:=by
  rw [readP,h0]
  simp only [show wordW [43,32,49,32,32,50,41]=[43] by decide,show restW [43,32,49,32,32,50,41]=[32,49,32,32,50,41] by decide,show opOf [43]=some 3 by decide,h1]
  rw [rd1 28 [32,32,50,41] (by intro b hb;injection hb with hb;subst hb;decide)]
  simp only [h2]
  rw [readP,h3]
  simp [show wordW [32,50,41]=[] by decide,leafP,takeC,zju]
 unfold qA;rw [this]
theorem qa {s:List UInt8} (h:qA s=none):parE s=X0∧parO s=false:=by unfold parE parO;rw [h];exact ⟨rfl,rfl⟩
theorem zbl {s:List UInt8} {e:Xp} (h:qA s=some e):parE s=e∧parO s=true:=by unfold parE parO;rw [h];exact ⟨rfl,rfl⟩
theorem tx5:textX (.mk 1 (-5) [])=[45,53]:=by unfold textX;rw [if_pos (by decide),qJ,it5]
end Go.Proofs.YtdkofaajcpcjkaaDoor
namespace Go.Proofs.YtdkofaajcpcjkaaDoor
open Go.RowKit
theorem x_sn0:nodes ((Xp.mk (3:Int) 0 [((Xp.mk (5:Int) 0 [((Xp.mk 2 (0:Int) [])),((Xp.mk 1 (3:Int) []))])),((Xp.mk 1 (-2:Int) []))]))≤1000000:=by decide
theorem x_sn1:(((evalE ((Xp.mk (3:Int) 0 [((Xp.mk (5:Int) 0 [((Xp.mk 2 (0:Int) [])),((Xp.mk 1 (3:Int) []))])),((Xp.mk 1 (-2:Int) []))])) (([(5:Int)]:List Int))).2 == 0 && (evalE ((Xp.mk (3:Int) 0 [((Xp.mk (5:Int) 0 [((Xp.mk 2 (0:Int) [])),((Xp.mk 1 (3:Int) []))])),((Xp.mk 1 (-2:Int) []))])) (([(5:Int)]:List Int))).1 == (13:Int)))=true:=by decide
theorem x_sn2:(((evalE ((Xp.mk (3:Int) 0 [((Xp.mk (5:Int) 0 [((Xp.mk 2 (0:Int) [])),((Xp.mk 1 (3:Int) []))])),((Xp.mk 1 (-2:Int) []))])) []).2 == (1:Int) && (evalE ((Xp.mk (3:Int) 0 [((Xp.mk (5:Int) 0 [((Xp.mk 2 (0:Int) [])),((Xp.mk 1 (3:Int) []))])),((Xp.mk 1 (-2:Int) []))])) []).1 == 0))=true:=by decide
theorem x_sn3:(((evalE ((Xp.mk (3:Int) 0 [((Xp.mk (5:Int) 0 [((Xp.mk 2 (0:Int) [])),((Xp.mk 1 (3:Int) []))])),((Xp.mk 1 (-2:Int) []))])) (([(1048576:Int)]:List Int))).2 == (3:Int) && (evalE ((Xp.mk (3:Int) 0 [((Xp.mk (5:Int) 0 [((Xp.mk 2 (0:Int) [])),((Xp.mk 1 (3:Int) []))])),((Xp.mk 1 (-2:Int) []))])) (([(1048576:Int)]:List Int))).1 == 0))=true:=by decide
theorem x_sn4:nodes ((Xp.mk (7:Int) 0 [((Xp.mk 2 (1:Int) [])),((Xp.mk 2 (0:Int) []))]))≤1000000:=by decide
theorem x_sn5:(((evalE ((Xp.mk (7:Int) 0 [((Xp.mk 2 (1:Int) [])),((Xp.mk 2 (0:Int) []))])) (([(4:Int),(9:Int)]:List Int))).2 == 0 && (evalE ((Xp.mk (7:Int) 0 [((Xp.mk 2 (1:Int) [])),((Xp.mk 2 (0:Int) []))])) (([(4:Int),(9:Int)]:List Int))).1 == (9:Int)))=true:=by decide
theorem x_sn6:nodes ((Xp.mk (6:Int) 0 [((Xp.mk 1 (0:Int) [])),((Xp.mk (5:Int) 0 [((Xp.mk 1 (1048576:Int) [])),((Xp.mk 1 (2:Int) []))]))]))≤1000000:=by decide
theorem x_sn7 {w0:World}:IxAll w0 [40,45,32,49,32,36,50,41]:=by exact zaQ (by decide) (by decide)
theorem x_sn8:([40,45,32,49,32,36,50,41]:List UInt8).length≤1000000:=by decide
theorem x_sn9:(parO [40,45,32,49,32,36,50,41])=true:=by rw [(zbl pz1).2];first | done | decide
theorem zlM:nodes (parE [40,45,32,49,32,36,50,41])≤1000000:=by rw [(zbl pz1).1];first | done | decide
theorem zlN {w0:World}:IxAll w0 [40,43,32,49,41]:=by exact zaQ (by decide) (by decide)
theorem zlO:([40,43,32,49,41]:List UInt8).length≤1000000:=by decide
theorem zlP:(sameX (parE [40,45,32,49,32,36,50,41]) ((Xp.mk (4:Int) 0 [((Xp.mk 1 (1:Int) [])),((Xp.mk 2 (2:Int) []))])))=true:=by rw [(zbl pz1).1];first | done | decide
theorem zlQ:(!(parO [40,43,32,49,41]))=true:=by rw [(qa pz5).2];first | done | decide
theorem zlR:nodes (parE [40,43,32,49,41])≤1000000:=by rw [(qa pz5).1];first | done | decide
theorem zlS {w0:World}:IxAll w0 [48,49]:=by exact zaQ (by decide) (by decide)
theorem zlT:([48,49]:List UInt8).length≤1000000:=by decide
theorem zlU:(sameX (parE [40,43,32,49,41]) X0)=true:=by rw [(qa pz5).1];first | done | decide
theorem zlV:(!(parO [48,49]))=true:=by rw [(qa pz2).2];first | done | decide
theorem zlW:nodes (parE [48,49])≤1000000:=by rw [(qa pz2).1];first | done | decide
theorem zlX {w0:World}:IxAll w0 [36,52]:=by exact zaQ (by decide) (by decide)
theorem zlY:([36,52]:List UInt8).length≤1000000:=by decide
theorem zlZ:(sameX (parE [48,49]) X0)=true:=by rw [(qa pz2).1];first | done | decide
theorem zl0:(!(parO [36,52]))=true:=by rw [(qa pz3).2];first | done | decide
theorem zl1:nodes (parE [36,52])≤1000000:=by rw [(qa pz3).1];first | done | decide
theorem zl2 {w0:World}:IxAll w0 [40,43,32,49,32,32,50,41]:=by exact zaQ (by decide) (by decide)
theorem zl3:([40,43,32,49,32,32,50,41]:List UInt8).length≤1000000:=by decide
theorem zl4:(sameX (parE [36,52]) X0)=true:=by rw [(qa pz3).1];first | done | decide
theorem zl5:(!(parO [40,43,32,49,32,32,50,41]))=true:=by rw [(qa pz6).2];first | done | decide
theorem zl6:nodes (parE [40,43,32,49,32,32,50,41])≤1000000:=by rw [(qa pz6).1];first | done | decide
theorem zl7 {w0:World}:IxAll w0 [49,48,52,56,53,55,55]:=by exact zaQ (by decide) (by decide)
theorem zl8:([49,48,52,56,53,55,55]:List UInt8).length≤1000000:=by decide
theorem zl9:(sameX (parE [40,43,32,49,32,32,50,41]) X0)=true:=by rw [(qa pz6).1];first | done | decide
theorem zma:(!(parO [49,48,52,56,53,55,55]))=true:=by rw [(qa pz4).2];first | done | decide
theorem zmb:nodes (parE [49,48,52,56,53,55,55])≤1000000:=by rw [(qa pz4).1];first | done | decide
theorem zmc:nodes ((Xp.mk 1 (-5:Int) []))≤1000000:=by decide
theorem zmd:nodes ((Xp.mk 1 (2097152:Int) []))≤1000000:=by decide
theorem zme:(((evalE ((Xp.mk (6:Int) 0 [((Xp.mk 1 (0:Int) [])),((Xp.mk (5:Int) 0 [((Xp.mk 1 (1048576:Int) [])),((Xp.mk 1 (2:Int) []))]))])) []).2 == (3:Int) && (evalE ((Xp.mk (6:Int) 0 [((Xp.mk 1 (0:Int) [])),((Xp.mk (5:Int) 0 [((Xp.mk 1 (1048576:Int) [])),((Xp.mk 1 (2:Int) []))]))])) []).1 == 0))=true:=by decide
theorem zmf:(sameX (parE [49,48,52,56,53,55,55]) X0)=true:=by rw [(qa pz4).1];first | done | decide
theorem zmg:(textO ((Xp.mk 1 (-5:Int) [])))=true:=by decide
theorem zmh:((((textX ((Xp.mk 1 (-5:Int) []))):List UInt8) == [45,53]))=true:=by rw [tx5];decide
theorem zmi:(!(textO ((Xp.mk 1 (2097152:Int) []))))=true:=by decide
theorem zmj:(sameX ((Xp.mk (3:Int) 0 [((Xp.mk (5:Int) 0 [((Xp.mk 2 (0:Int) [])),((Xp.mk 1 (3:Int) []))])),((Xp.mk 1 (-2:Int) []))])) ((Xp.mk (3:Int) 0 [((Xp.mk (5:Int) 0 [((Xp.mk 2 (0:Int) [])),((Xp.mk 1 (3:Int) []))])),((Xp.mk 1 (-2:Int) []))])))=true:=by decide
theorem zmk:(!(sameX ((Xp.mk (3:Int) 0 [((Xp.mk (5:Int) 0 [((Xp.mk 2 (0:Int) [])),((Xp.mk 1 (3:Int) []))])),((Xp.mk 1 (-2:Int) []))])) (parE [40,45,32,49,32,36,50,41])))=true:=by rw [(zbl pz1).1];first | done | decide
theorem zH {w0:World} (hL:LibT w0):Fun (KN w0) Tryd.prog 8 [] (.o (.c (pV (.bool true)))):=
 zhd hL _ _ _ _ _ _ _ _ _ _ _ _ _ _ _ _ _ _ _ _ _ _ _ _ _ _ _ _ _ _ _ _ _ _ _ _ _ _ _ _ _ _ _ _ _ _ _ _ _ _ _ _ _ _ _ _ _ _ rfl rfl rfl rfl rfl rfl rfl rfl rfl rfl rfl rfl rfl rfl rfl rfl rfl rfl rfl rfl rfl rfl rfl rfl rfl rfl rfl rfl rfl rfl rfl rfl rfl rfl rfl rfl rfl rfl rfl rfl rfl rfl rfl rfl rfl rfl rfl rfl rfl rfl rfl rfl rfl rfl rfl rfl rfl zmk x_sn0 x_sn1 x_sn0 x_sn2 x_sn0 x_sn3 x_sn4 x_sn5 x_sn6 x_sn7 x_sn8 x_sn9 zlM zlN zlO zlP zlQ zlR zlS zlT zlU zlV zlW zlX zlY zlZ zl0 zl1 zl2 zl3 zl4 zl5 zl6 zl7 zl8 zl9 zma zmb zmc zmd zme zmf zmg zmh zmi x_sn0 zmj x_sn0
end Go.Proofs.YtdkofaajcpcjkaaDoor
namespace Go.Proofs.YtdkofaajcpcjkaaDoor
open Go.RowKit
theorem zjV {w0:World} (n:Int) (m:Int) (v1:Bool) (e1:(decide (m<(1:Int)))=v1) (h2:v1=true):Fun (KN w0) Tryd.prog 10 [.o (.c (pI n)),.o (.c (pI m))] (.o (.c (pV (.int .i64 0)))):=
 zj (zl (F:=FL [pI n,pI m,pB v1] []) (C:=[(1000002,.bin .lss 3 (LF (.h 1)) (LF (.k (.int .i64 1))) (LF (.h 2))),
  (10002,.fb 2 true)]) (k:=⟨10,[.o (.c (.h 0)),.o (.c (.h 1))],[],.o (.c (.k (.int .i64 0))),[]⟩) 0 (zi ⟨zb rfl,zb rfl,zb rfl,trivial⟩) ⟨e_bin (za rfl) zc (za rfl) (r_cmp (congrArg some e1)),
  e_fb (show pV (.bool v1)=_ by rw [h2]),
  trivial⟩ mixed (by kernel_rfl)) rfl rfl rfl rfl
theorem zjW {w0:World} (n:Int) (m:Int) (v1:Bool) (v3:Int) (v5:Int) (v6:Int) (e1:(decide (m<(1:Int)))=v1) (e3:((n:Int).tmod m)=v3) (e5:(IntKind.i64.wrap (v3+m))=v5) (e6:((v5:Int).tmod m)=v6) (h2:v1=false) (s4:m≠0) (s7:m≠0):Fun (KN w0) Tryd.prog 10 [.o (.c (pI n)),.o (.c (pI m))] (.o (.c (pI v6))):=
 zj (zl (F:=FL [pI n,pI m,pB v1,pI v3,pI v5,pI v6] []) (C:=[(1000002,.bin .lss 3 (LF (.h 1)) (LF (.k (.int .i64 1))) (LF (.h 2))),
  (10002,.fb 2 false),
  (1000005,.bin .rem 3 (LF (.h 0)) (LF (.h 1)) (LF (.h 3))),
  (1000007,.bin .add 3 (LF (.h 3)) (LF (.h 1)) (LF (.h 4))),
  (1000009,.bin .rem 3 (LF (.h 4)) (LF (.h 1)) (LF (.h 5)))]) (k:=⟨10,[.o (.c (.h 0)),.o (.c (.h 1))],[],.o (.c (.h 5)),[]⟩) 0 (zi ⟨zb rfl,zb rfl,zb rfl,zb rfl,zb rfl,zb rfl,trivial⟩) ⟨e_bin (za rfl) zc (za rfl) (r_cmp (congrArg some e1)),
  e_fb (show pV (.bool v1)=_ by rw [h2]),
  e_bin (za rfl) (za rfl) (za rfl) (r_ar ((zU s4).trans (congrArg some e3))),
  e_bin (za rfl) (za rfl) (za rfl) (r_ar (congrArg some e5)),
  e_bin (za rfl) (za rfl) (za rfl) (r_ar ((zU s7).trans (congrArg some e6))),
  trivial⟩ mixed (by kernel_rfl)) rfl rfl rfl rfl
theorem x_mod {w0:World} (n m:Int) (r:Int) (hr:modX n m=r):Fun (KN w0) Tryd.prog 10 [.o (.c (pI n)),.o (.c (pI m))] (.o (.c (pI r))):=by
 obtain ⟨v1,e1⟩:∃v,(decide (m<(1:Int)))=v:=⟨_,rfl⟩
 cases h2:v1 with
 | true =>
  refine Fun.imp (zjV n m v1 e1 h2) (fun _ _ _ h=>h) (fun v W D h=>?_)
  have r0:r=(0:Int):=by
   (have dh2:=of_decide_eq_true (e1.trans h2);rw [← hr];unfold modX;rw [if_pos (by omega)])
  rw [r0];exact h
 | false =>
  obtain ⟨v3,e3⟩:∃v,((n:Int).tmod m)=v:=⟨_,rfl⟩
  have s4:m≠0:=by first | (simp_all;done) | (simp_all;omega)
  obtain ⟨v5,e5⟩:∃v,(IntKind.i64.wrap (v3+m))=v:=⟨_,rfl⟩
  obtain ⟨v6,e6⟩:∃v,((v5:Int).tmod m)=v:=⟨_,rfl⟩
  have s7:m≠0:=by first | (simp_all;done) | (simp_all;omega)
  refine Fun.imp (zjW n m v1 v3 v5 v6 e1 e3 e5 e6 h2 s4 s7) (fun _ _ _ h=>h) (fun v W D h=>?_)
  have r0:r=v6:=by
   (have dh2:=of_decide_eq_false (e1.trans h2);rw [← hr];unfold modX;rw [if_neg (by omega)];simp_all)
  rw [r0];exact h
def posA (l r:List Int):Int:=(l.length:Int) - r.length
theorem zz {l r:List Int} {v:Int} (h:r <:+ l) (hv:posA l r=v):l.drop v.toNat=r∧0≤v∧v≤l.length:=by
 obtain ⟨t,rfl⟩:=h
 unfold posA at hv
 rw [List.length_append] at hv
 obtain rfl:v=t.length:=by omega
 exact ⟨by rw [Int.toNat_natCast,List.drop_left],by omega,by rw [List.length_append];omega⟩
theorem zn (l:List Int) (n:Int):(drawX l n).2 <:+ l:=by
 cases l with
 | nil=>exact List.suffix_refl _
 | cons x r=>exact List.suffix_cons ..
theorem qx (g:Int):∀(d:Nat) (l:List Int),(madeX g d l).2 <:+ l
 | 0,l=>by
  rw [madeX]
  split<;>exact (zn _ _).trans (zn _ _)
 | d+1,l=>by
  rw [madeX]
  split
  ·split<;>exact (zn _ _).trans (zn _ _)
  ·exact ((qx g d _).trans (qx g d _)).trans ((zn _ _).trans (zn _ _))
theorem zhz {l:List Int} {n:Nat} {x m:Int} (h:l[n]?=some x):drawX (l.drop n) m=(modX x m,l.drop (n+1)):=by
 obtain ⟨hk,rfl⟩:=List.getElem?_eq_some_iff.1 h
 rw [List.drop_eq_getElem_cons hk];rfl
theorem zf1 {l:List Int} {n:Nat} (m:Int) (h:l.length≤n):drawX (l.drop n) m=(0,[]):=by rw [List.drop_of_length_le h];rfl
theorem ziS {w0:World} (l:(List Int)) (a:Int) (n:Int) (v1:Int) (v2:Bool) (e1:((l.length:Int))=v1) (e2:(decide (a ≥ v1))=v2) (h3:v2=true):BFun false (KN w0) Tryd.prog 72 [.o (.c (.p 0 0)),.o (.c (.d (pI n)))] [(79,[.d (pLs cI l),.d (pI a)])] (.o (.c (.d (pV (.int .i64 0))))) [(79,[.d (pLs cI l),.d (pI a)])] :=
 con_b (pan:=false) (zl (F:=FL [pLs cI l,pI a,pI n,pI v1,pB v2] []) (C:=[(1000009,.op (.len [22] 3) [LF (.h 0)] [] (LF (.h 3))),
  (1000010,.bin .geq 3 (LF (.h 1)) (LF (.h 3)) (LF (.h 4))),
  (10004,.fb 4 true)]) (k:=⟨72,[.o (.c (.p 900 0)),.o (.c (.h 2))],[.bx 900 79 [.h 0,.h 1]],.o (.c (.k (.int .i64 0))),[.bx 900 79 [.h 0,.h 1]]⟩) 0 (zi ⟨(ze zf),zb rfl,zb rfl,zb rfl,zb rfl,trivial⟩) ⟨zm (E:=3) (by kernel_rfl) (zd rfl) (za (by rw [← e1];rfl)),
  e_bin (za rfl) (za rfl) (za rfl) (r_cmp (congrArg some e2)),
  e_fb (show pV (.bool v2)=_ by rw [h3]),
  trivial⟩ mixed (by kernel_rfl)) (by kernel_rfl) rfl rfl rfl rfl
theorem ziT {w0:World} (l:(List Int)) (a:Int) (n:Int) (v1:Int) (v2:Bool) (v4:Int) (v5:Int) (n6:Nat) (x7:Int) (v10:Int) (e1:((l.length:Int))=v1) (e2:(decide (a ≥ v1))=v2) (e4:(IntKind.i64.wrap (a+(1:Int)))=v4) (e5:(IntKind.i64.wrap (v4 - (1:Int)))=v5) (e10:(modX x7 n)=v10) (h3:v2=false) (s8:v5=(n6:Int)) (s9:l[n6]?=some x7):BFun false (KN w0) Tryd.prog 72 [.o (.c (.p 0 0)),.o (.c (.d (pI n)))] [(79,[.d (pLs cI l),.d (pI a)])] (.o (.c (.d (pI v10)))) [(79,[.d (pLs cI l),.d (pI v4)])] :=
 con_b (pan:=false) (zl (F:=FL [pLs cI l,pI a,pI n,pI v1,pB v2,pI v4,pI v5,pP (cI x7),pI x7,pI v10] []) (C:=[(1000009,.op (.len [22] 3) [LF (.h 0)] [] (LF (.h 3))),
  (1000010,.bin .geq 3 (LF (.h 1)) (LF (.h 3)) (LF (.h 4))),
  (10004,.fb 4 false),
  (1000015,.bin .add 3 (LF (.h 1)) (LF (.k (.int .i64 1))) (LF (.h 5))),
  (1000027,.bin .sub 3 (LF (.h 5)) (LF (.k (.int .i64 1))) (LF (.h 6))),
  (1000028,.op (.ia 22) [LF (.h 0),LF (.h 6)] [] (LF (.h 7))),
  (1000029,.op (.ld 3) [LF (.h 7)] [] (LF (.h 8))),
  (1000031,.call ⟨10,[.o (.c (.h 8)),.o (.c (.h 2))],[],.o (.c (.h 9)),[]⟩)]) (k:=⟨72,[.o (.c (.p 900 0)),.o (.c (.h 2))],[.bx 900 79 [.h 0,.h 1]],.o (.c (.h 9)),[.bx 900 79 [.h 0,.h 5]]⟩) 0 (zi ⟨(ze zf),zb rfl,zb rfl,zb rfl,zb rfl,zb rfl,zb rfl,(zu (zf _)),zb rfl,zb rfl,trivial⟩) ⟨zm (E:=3) (by kernel_rfl) (zd rfl) (za (by rw [← e1];rfl)),
  e_bin (za rfl) (za rfl) (za rfl) (r_cmp (congrArg some e2)),
  e_fb (show pV (.bool v2)=_ by rw [h3]),
  e_bin (za rfl) zc (za rfl) (r_ar (congrArg some e4)),
  e_bin (za rfl) zc (za rfl) (r_ar (congrArg some e5)),
  e_iaL (E:=3) (z:=1) (fun _=>rfl) (by kernel_rfl) (by kernel_rfl) (zd rfl) (za rfl) s8 s9 (zd rfl),
  e_ldP (by kernel_rfl) (zd rfl) (zd rfl),
  zg (x_mod x7 n v10 e10) rfl rfl rfl rfl,
  trivial⟩ mixed (by kernel_rfl)) (by kernel_rfl) rfl rfl rfl rfl
theorem zlL {w0:World} (l:List Int) (a n:Int) (r p:Int) (hr:(drawX (l.drop a.toNat) n).1=r) (hp:posA l (drawX (l.drop a.toNat) n).2=p) (ha:0≤a∧a≤l.length) (hl:l.length<9223372036854775807):BFun false (KN w0) Tryd.prog 72 [.o (.c (.p 0 0)),.o (.c (.d (pI n)))] [(79,[.d (pLs cI l),.d (pI a)])] (.o (.c (.d (pI r)))) [(79,[.d (pLs cI l),.d (pI p)])]:=by
 obtain ⟨v1,e1⟩:∃v,((l.length:Int))=v:=⟨_,rfl⟩
 obtain ⟨v2,e2⟩:∃v,(decide (a ≥ v1))=v:=⟨_,rfl⟩
 cases h3:v2 with
 | true =>
  have r0:r=(0:Int):=by
   (have dh3:=of_decide_eq_true (e2.trans h3);have hzv1:=e1;rw [zf1 _ (by omega)] at hr hp;first | exact hr.symm | (rw [← hp];unfold posA;simp;omega))
  have r1:p=a:=by
   (have dh3:=of_decide_eq_true (e2.trans h3);have hzv1:=e1;rw [zf1 _ (by omega)] at hr hp;first | exact hr.symm | (rw [← hp];unfold posA;simp;omega))
  rw [r0,r1];exact ziS l a n v1 v2 e1 e2 h3
 | false =>
  obtain ⟨v4,e4⟩:∃v,(IntKind.i64.wrap (a+(1:Int)))=v:=⟨_,rfl⟩
  obtain ⟨v5,e5⟩:∃v,(IntKind.i64.wrap (v4 - (1:Int)))=v:=⟨_,rfl⟩
  obtain ⟨n6,x7,s8,s9⟩:∃(n6:Nat) (x7:Int),v5=(n6:Int)∧l[n6]?=some x7:=by (have dh3:=of_decide_eq_false (e2.trans h3);have hzv1:=e1;have qv4:v4=a+1:=(by rw [← e4,wri (by omega)]);have qv5:v5=a:=(by rw [← e5,wri (by omega)];omega);exact ⟨a.toNat,_,by omega,List.getElem?_eq_getElem (by omega)⟩)
  obtain ⟨v10,e10⟩:∃v,(modX x7 n)=v:=⟨_,rfl⟩
  have r0:r=v10:=by
   (have dh3:=of_decide_eq_false (e2.trans h3);have hzv1:=e1;have qv4:v4=a+1:=(by rw [← e4,wri (by omega)]);have qv5:v5=a:=(by rw [← e5,wri (by omega)];omega);have hn:a.toNat=n6:=(by omega);have hlt:=(List.getElem?_eq_some_iff.1 s9).1;rw [hn,zhz s9] at hr hp;first | (rw [← hr];assumption) | (rw [← hp];unfold posA;rw [List.length_drop];omega))
  have r1:p=v4:=by
   (have dh3:=of_decide_eq_false (e2.trans h3);have hzv1:=e1;have qv4:v4=a+1:=(by rw [← e4,wri (by omega)]);have qv5:v5=a:=(by rw [← e5,wri (by omega)];omega);have hn:a.toNat=n6:=(by omega);have hlt:=(List.getElem?_eq_some_iff.1 s9).1;rw [hn,zhz s9] at hr hp;first | (rw [← hr];assumption) | (rw [← hp];unfold posA;rw [List.length_drop];omega))
  rw [r0,r1];exact ziT l a n v1 v2 v4 v5 n6 x7 v10 e1 e2 e4 e5 e10 h3 s8 s9
theorem qE {w0:World} (n:Int) (l:List Int) (a:Int) (r p:Int) (hr:(drawX (l.drop a.toNat) n).1=r) (hp:posA l (drawX (l.drop a.toNat) n).2=p) (ha:0≤a∧a≤l.length) (hl:l.length<9223372036854775807):BFun false (KN w0) Tryd.prog 72 [.o (.c (.p 0 0)),.o (.c (.d (pI n)))] [(79,[.d (pLs cI l),.d (pI a)])] (.o (.c (.d (pI r)))) [(79,[.d (pLs cI l),.d (pI p)])]:=zlL l a n r p hr hp ha hl
end Go.Proofs.YtdkofaajcpcjkaaDoor
