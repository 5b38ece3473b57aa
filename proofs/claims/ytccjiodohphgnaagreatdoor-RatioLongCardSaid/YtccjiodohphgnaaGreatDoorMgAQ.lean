/-
  Merged: RtE, RtF, RtG, RtH.
-/
import Derived.Test.YtccjiodohphgnaaGreatDoorMgAP
set_option linter.unusedSimpArgs false
set_option linter.unusedVariables false
set_option maxRecDepth 100000
namespace Go.Proofs.YtccjiodohphgnaaGreatDoor
open Go.RowKit Go.Shelf
abbrev InR (n:Int):Prop:=-9223372036854775808≤n∧n<9223372036854775808
theorem zc8 {w0:World} (a:Int×Int) (r:RR) (hr:rq (fracR a.1 a.2)=r) (h:InR a.1) (h2:InR a.2):Fun (KN w0) Tryz.prog 48 [.o (.g [pI a.1,pI a.2])] (gR r):=ztQ a.1 a.2 r hr h.1 h.2 h2.1 h2.2
theorem q9 {w0:World} (a:Int×Int) (r:RR) (hr:rq (fracR a.1 a.2)=r) (h:InR a.1) (h2:InR a.2):Fun (KN w0) Tryz.prog 37 [.o (.g [pI a.1,pI a.2])] (gR r):=zmO a.1 a.2 r hr h.1 h.2 h2.1 h2.2
theorem zoB {w0:World} (x:RR) (y:RR) (v1:Bool) (v3:Bool) (e1:(decide (x.1=y.1))=v1) (e3:(decide (x.2=y.2))=v3) (h2:v1=true):Fun (KN w0) Tryz.prog 17 [.o (.g [pB x.1.1,pD x.1.2,pB x.2.1,pD x.2.2]),.o (.g [pB y.1.1,pD y.1.2,pB y.2.1,pD y.2.2])] (.o (.c (pB v3))):=
 zi (zl (F:=FL [pB x.1.1,pD x.1.2,pB x.2.1,pD x.2.2,pB y.1.1,pD y.1.2,pB y.2.1,pD y.2.2,pB v1,pB v3] []) (C:=[(1000007,.call ⟨63,[.o (.g [.h 0,.h 1]),.o (.g [.h 4,.h 5])],[],.o (.c (.h 8)),[]⟩),
  (10008,.fb 8 true),
  (1000013,.call ⟨63,[.o (.g [.h 2,.h 3]),.o (.g [.h 6,.h 7])],[],.o (.c (.h 9)),[]⟩)]) (k:=⟨17,[.o (.g [.h 0,.h 1,.h 2,.h 3]),.o (.g [.h 4,.h 5,.h 6,.h 7])],[],.o (.c (.h 9)),[]⟩) 0 (zm ⟨za rfl,ze,za rfl,ze,za rfl,ze,za rfl,ze,za rfl,za rfl,trivial⟩) ⟨zc (zcM x.1 y.1 v1 e1) rfl rfl rfl rfl,
  e_fb (show pV (.bool v1)=_ by rw [h2]),
  zc (zcM x.2 y.2 v3 e3) rfl rfl rfl rfl,
  trivial⟩ mixed (by kernel_rfl)) rfl rfl rfl rfl
theorem zoC {w0:World} (x:RR) (y:RR) (v1:Bool) (e1:(decide (x.1=y.1))=v1) (h2:v1=false):Fun (KN w0) Tryz.prog 17 [.o (.g [pB x.1.1,pD x.1.2,pB x.2.1,pD x.2.2]),.o (.g [pB y.1.1,pD y.1.2,pB y.2.1,pD y.2.2])] (.o (.c (pV (.bool false)))):=
 zi (zl (F:=FL [pB x.1.1,pD x.1.2,pB x.2.1,pD x.2.2,pB y.1.1,pD y.1.2,pB y.2.1,pD y.2.2,pB v1] []) (C:=[(1000007,.call ⟨63,[.o (.g [.h 0,.h 1]),.o (.g [.h 4,.h 5])],[],.o (.c (.h 8)),[]⟩),
  (10008,.fb 8 false)]) (k:=⟨17,[.o (.g [.h 0,.h 1,.h 2,.h 3]),.o (.g [.h 4,.h 5,.h 6,.h 7])],[],.o (.c (.k (.bool false))),[]⟩) 0 (zm ⟨za rfl,ze,za rfl,ze,za rfl,ze,za rfl,ze,za rfl,trivial⟩) ⟨zc (zcM x.1 y.1 v1 e1) rfl rfl rfl rfl,
  e_fb (show pV (.bool v1)=_ by rw [h2]),
  trivial⟩ mixed (by kernel_rfl)) rfl rfl rfl rfl
theorem zY {w0:World} (x y:RR) (o:Bool) (ho:decide (x=y)=o):Fun (KN w0) Tryz.prog 17 [.o (.g [pB x.1.1,pD x.1.2,pB x.2.1,pD x.2.2]),.o (.g [pB y.1.1,pD y.1.2,pB y.2.1,pD y.2.2])] (.o (.c (pB o))):=by
 obtain ⟨v1,e1⟩:∃v,(decide (x.1=y.1))=v:=⟨_,rfl⟩
 cases h2:v1 with
 | true =>
  obtain ⟨v3,e3⟩:∃v,(decide (x.2=y.2))=v:=⟨_,rfl⟩
  refine Fun.imp (zoB x y v1 v3 e1 e3 h2) (fun _ _ _ h=>h) (fun v W D h=>?_)
  have r0:o=v3:=by
   rw [← ho]
   subst_vars
   cases x;cases y
   simp_all
  rw [r0];exact h
 | false =>
  refine Fun.imp (zoC x y v1 e1 h2) (fun _ _ _ h=>h) (fun v W D h=>?_)
  have r0:o=false:=by
   rw [← ho]
   subst_vars
   cases x;cases y
   simp_all
  rw [r0];exact h
def zJ (x:RR):RR:=((x.1.1,x.1.2.take 6),(x.2.1,x.2.2.take 6))
theorem min6 {n:Nat} {v:Int} (h:(if (6:Int)<n then (6:Int) else n)=v):∃m:Nat,v=(m:Int)∧m≤n∧∀l:List Nat,l.length=n→l.take m=l.take 6:=by
 split at h
 ·exact ⟨6,by omega,by omega,fun _ _=>rfl⟩
 ·refine ⟨n,by omega,Nat.le_refl _,fun l hl=>?_⟩
  rw [List.take_of_length_le (by omega),List.take_of_length_le (by omega)]
theorem zsr {w0:World} (x:RR) (v1:Int) (v2:Int) (n3:Nat) (v5:(List Nat)) (v7:Int) (v8:Int) (n9:Nat) (v11:(List Nat)) (e1:((x.1.2.length:Int))=v1) (e2:((if (6:Int)<v1 then (6:Int) else v1))=v2) (e5:(x.1.2.take n3)=v5) (e7:((x.2.2.length:Int))=v7) (e8:((if (6:Int)<v7 then (6:Int) else v7))=v8) (e11:(x.2.2.take n9)=v11) (s4:v2=(n3:Int)) (s6:n3≤x.1.2.length) (s10:v8=(n9:Int)) (s12:n9≤x.2.2.length):Fun (KN w0) Tryz.prog 11 [.o (.g [pB x.1.1,pD x.1.2,pB x.2.1,pD x.2.2])] (.o (.g [pB x.1.1,pD v5,pB x.2.1,pD v11])):=
 zi (zl (F:=FL [pB x.1.1,pD x.1.2,pB x.2.1,pD x.2.2,pI v1,pI v2,pD v5,pI v7,pI v8,pD v11] []) (C:=[(1000008,.op (.len [24] 3) [LF (.h 1)] [] (LF (.h 4))),
  (1000009,.op (.min [3,3] 3) [LF (.h 4),LF (.k (.int .i64 6))] [] (LF (.h 5))),
  (1000010,.op (.sc 24 false true false) [LF (.h 1),LF (.h 5)] [] (LF (.h 6))),
  (1000020,.op (.len [24] 3) [LF (.h 3)] [] (LF (.h 7))),
  (1000021,.op (.min [3,3] 3) [LF (.h 7),LF (.k (.int .i64 6))] [] (LF (.h 8))),
  (1000022,.op (.sc 24 false true false) [LF (.h 3),LF (.h 8)] [] (LF (.h 9)))]) (k:=⟨11,[.o (.g [.h 0,.h 1,.h 2,.h 3])],[],.o (.g [.h 0,.h 6,.h 2,.h 9]),[]⟩) 0 (zm ⟨za rfl,ze,za rfl,ze,za rfl,za rfl,ze,za rfl,za rfl,ze,trivial⟩) ⟨zcC (E:=84) (by kernel_rfl) (zd rfl) (zb (by rw [← e1];rfl)),
  e_op2 (zb rfl) zg (zb rfl) (fun W=>by rw [← e2];exact zbd W),
  e_slD (E:=84) (by kernel_rfl) (by kernel_rfl) (zd rfl) (zb rfl) s4 s6 (zd (by rw [e5];rfl)),
  zcC (E:=84) (by kernel_rfl) (zd rfl) (zb (by rw [← e7];rfl)),
  e_op2 (zb rfl) zg (zb rfl) (fun W=>by rw [← e8];exact zbd W),
  e_slD (E:=84) (by kernel_rfl) (by kernel_rfl) (zd rfl) (zb rfl) s10 s12 (zd (by rw [e11];rfl)),
  trivial⟩ mixed (by kernel_rfl)) rfl rfl rfl rfl
theorem zlo {w0:World} (x r:RR) (hr:zJ x=r):Fun (KN w0) Tryz.prog 11 [gR x] (gR r):=by
 obtain ⟨m,h1,h2,h3⟩:=min6 (n:=x.1.2.length) rfl
 obtain ⟨k,h4,h5,h6⟩:=min6 (n:=x.2.2.length) rfl
 rw [← hr]
 unfold zJ
 rw [← h3 _ rfl,← h6 _ rfl]
 exact zsr x _ _ m _ _ _ k _ rfl rfl rfl rfl rfl rfl h1 h2 h4 h5
def modI (n m:Int):Int:=if m<1 then 0 else (IntKind.i64.wrap (n.tmod m+m)).tmod m
theorem zqA {w0:World} (n:Int) (m:Int) (v1:Bool) (e1:(decide (m<(1:Int)))=v1) (h2:v1=true):Fun (KN w0) Tryz.prog 30 [.o (.c (pI n)),.o (.c (pI m))] (.o (.c (pV (.int .i64 0)))):=
 zi (zl (F:=FL [pI n,pI m,pB v1] []) (C:=[(1000002,.bin .lss 3 (LF (.h 1)) (LF (.k (.int .i64 1))) (LF (.h 2))),
  (10002,.fb 2 true)]) (k:=⟨30,[.o (.c (.h 0)),.o (.c (.h 1))],[],.o (.c (.k (.int .i64 0))),[]⟩) 0 (zm ⟨za rfl,za rfl,za rfl,trivial⟩) ⟨e_bin (zb rfl) zg (zb rfl) (r_cmp (congrArg some e1)),
  e_fb (show pV (.bool v1)=_ by rw [h2]),
  trivial⟩ mixed (by kernel_rfl)) rfl rfl rfl rfl
theorem zqB {w0:World} (n:Int) (m:Int) (v1:Bool) (v3:Int) (v5:Int) (v6:Int) (e1:(decide (m<(1:Int)))=v1) (e3:((n:Int).tmod m)=v3) (e5:(IntKind.i64.wrap (v3+m))=v5) (e6:((v5:Int).tmod m)=v6) (h2:v1=false) (s4:m≠0) (s7:m≠0):Fun (KN w0) Tryz.prog 30 [.o (.c (pI n)),.o (.c (pI m))] (.o (.c (pI v6))):=
 zi (zl (F:=FL [pI n,pI m,pB v1,pI v3,pI v5,pI v6] []) (C:=[(1000002,.bin .lss 3 (LF (.h 1)) (LF (.k (.int .i64 1))) (LF (.h 2))),
  (10002,.fb 2 false),
  (1000005,.bin .rem 3 (LF (.h 0)) (LF (.h 1)) (LF (.h 3))),
  (1000007,.bin .add 3 (LF (.h 3)) (LF (.h 1)) (LF (.h 4))),
  (1000009,.bin .rem 3 (LF (.h 4)) (LF (.h 1)) (LF (.h 5)))]) (k:=⟨30,[.o (.c (.h 0)),.o (.c (.h 1))],[],.o (.c (.h 5)),[]⟩) 0 (zm ⟨za rfl,za rfl,za rfl,za rfl,za rfl,za rfl,trivial⟩) ⟨e_bin (zb rfl) zg (zb rfl) (r_cmp (congrArg some e1)),
  e_fb (show pV (.bool v1)=_ by rw [h2]),
  e_bin (zb rfl) (zb rfl) (zb rfl) (r_ar ((zas s4).trans (congrArg some e3))),
  e_bin (zb rfl) (zb rfl) (zb rfl) (r_ar (congrArg some e5)),
  e_bin (zb rfl) (zb rfl) (zb rfl) (r_ar ((zas s7).trans (congrArg some e6))),
  trivial⟩ mixed (by kernel_rfl)) rfl rfl rfl rfl
theorem f_mod {w0:World} (n m:Int) (o:Int) (ho:modI n m=o):Fun (KN w0) Tryz.prog 30 [.o (.c (pI n)),.o (.c (pI m))] (.o (.c (pI o))):=by
 obtain ⟨v1,e1⟩:∃v,(decide (m<(1:Int)))=v:=⟨_,rfl⟩
 cases h2:v1 with
 | true =>
  refine Fun.imp (zqA n m v1 e1 h2) (fun _ _ _ h=>h) (fun v W D h=>?_)
  have r0:o=(0:Int):=by
   unfold modI at ho
   subst_vars
   rw [if_pos (by simp_all)]
  rw [r0];exact h
 | false =>
  obtain ⟨v3,e3⟩:∃v,((n:Int).tmod m)=v:=⟨_,rfl⟩
  have s4:m≠0:=by first | (simp_all;done) | (simp_all;omega)
  obtain ⟨v5,e5⟩:∃v,(IntKind.i64.wrap (v3+m))=v:=⟨_,rfl⟩
  obtain ⟨v6,e6⟩:∃v,((v5:Int).tmod m)=v:=⟨_,rfl⟩
  have s7:m≠0:=by first | (simp_all;done) | (simp_all;omega)
  refine Fun.imp (zqB n m v1 v3 v5 v6 e1 e3 e5 e6 h2 s4 s7) (fun _ _ _ h=>h) (fun v W D h=>?_)
  have r0:o=v6:=by
   unfold modI at ho
   subst_vars
   rw [if_neg (by simp_all)]
  rw [r0];exact h
end Go.Proofs.YtccjiodohphgnaaGreatDoor
namespace Go.Proofs.YtccjiodohphgnaaGreatDoor
open Go.RowKit Go.Shelf
def cI (x:Int):List Pred:=[pI x]
theorem zE {w0:World} (x:Int):FineAll (KN w0) (cI x):=⟨za rfl,trivial⟩
def numL:List Int→Int
 | l=>l.foldl (fun a x=>a*4294967296+x.tmod 4294967296) 0
theorem zkv (l:List Int) (x:Int):numL (l++[x])=numL l*4294967296+x.tmod 4294967296:=by
 unfold numL;rw [List.foldl_append];rfl
theorem zd7 (x:Int):-4294967295≤x.tmod 4294967296∧x.tmod 4294967296≤4294967295:=by
 have h1:=Int.tmod_lt_of_pos x (show (0:Int)<4294967296 by decide)
 have h2:=Int.lt_tmod_of_pos x (show (0:Int)<4294967296 by decide)
 omega
theorem zi4:∀(l:List Int),l.length≤3→(numL l).natAbs≤79228162532711081667253501951
 | [],_=>by decide
 | [a],_=>by have:=zd7 a;show (0*4294967296+_:Int).natAbs≤_;omega
 | [a,b],_=>by have:=zd7 a;have:=zd7 b;show ((0*4294967296+a.tmod 4294967296)*4294967296+b.tmod 4294967296:Int).natAbs≤_;omega
 | [a,b,c],_=>by have:=zd7 a;have:=zd7 b;have:=zd7 c;show (((0*4294967296+a.tmod 4294967296)*4294967296+b.tmod 4294967296)*4294967296+c.tmod 4294967296:Int).natAbs≤_;omega
 | _::_::_::_::_,h=>by simp at h
theorem zfP {l:List Int} (h:l.length≤3):(numL l).natAbs<big:=Nat.lt_of_le_of_lt (zi4 l h) (by unfold big;decide +kernel)
theorem zpX {l:List Int} {f k:Nat} {x:Int} (h:l[f+k]?=some x):(l.drop f).take (k+1)=(l.drop f).take k++[x]:=by
 rw [List.take_add_one,List.getElem?_drop,h];rfl
structure nb_T where
 i:Int
 acc:Raw
def zcT:List Atom:=[.sl 0 (.o (.c (.h 0))),.sl 1 (.o (.c (.h 1))),.sl 4 (.o (.c (.p 0 0))),.sl 5 (.o (.c (.p 2 0))),.sl 6 (.o (.c (.p 5 0))),.sl 7 (.o (.c (.h 6))),.sl 8 (.o (.g [.h 2,.h 3])),.sl 9 (.o (.g [.h 4,.h 5])),.sl 10 (.o (.c (.h 1))),.bx 0 26 [.k (.bool false),.k (.slice none 0 0)],.bx 2 26 [.h 7,.h 8],.bx 5 26 [.h 4,.h 5]]
def nb_S:LoopS:=⟨4,[.sl 0 (.o (.c (.h 0))),.sl 1 (.o (.c (.h 1))),.sl 4 (.o (.c (.p 0 0))),.sl 5 (.o (.c (.p 2 0))),.sl 6 (.o (.c (.p 5 0))),.sl 7 (.o (.c (.h 1))),.sl 8 (.o (.g [.h 2,.h 3])),.sl 9 (.o (.g [.h 4,.h 5])),.sl 10 (.o (.c (.h 1))),.bx 0 26 [.k (.bool false),.k (.slice none 0 0)],.bx 2 26 [.h 2,.h 3],.bx 5 26 [.h 4,.h 5]],(.x 0),[.sl 0 (.o (.c (.h 0))),.sl 1 (.o (.c (.h 1))),.sl 4 (.o (.c (.p 0 0))),.sl 5 (.o (.c (.p 2 0))),.sl 6 (.o (.c (.p 5 0))),.sl 8 (.o (.g [.h 2,.h 3])),.sl 9 (.o (.g [.h 4,.h 5])),.sl 10 (.o (.c (.h 1))),.bx 0 26 [.k (.bool false),.k (.slice none 0 0)],.bx 2 26 [.h 6,.h 7],.bx 5 26 [.h 4,.h 5]]⟩
theorem nb_r0 {w0:World} (l:(List Int)) (f:Int) (v1:Raw) (v4:Raw) (i:Int) (acc:Raw) (v501:Int) (v502:Bool) (v504:Int) (v505:Bool) (v507:Raw) (v508:Bool) (n509:Nat) (x510:Int) (v513:Int) (v514:Raw) (v517:Raw) (v518:Bool) (v519:Int) (e501:((l.length:Int))=v501) (e502:(decide (i<v501))=v502) (e504:(IntKind.i64.wrap (f+(3:Int)))=v504) (e505:(decide (i<v504))=v505) (e507:(nz (vO (mulX acc v4)))=v507) (e508:(okO (mulX acc v4))=v508) (e513:((x510:Int).tmod (4294967296:Int))=v513) (e514:(nz v513)=v514) (e517:(nz (vO (addX v507 v514)))=v517) (e518:(okO (addX v507 v514))=v518) (e519:(IntKind.i64.wrap (i+(1:Int)))=v519) (h503:v502=true) (h506:v505=true) (s511:i=(n509:Int)) (s512:l[n509]?=some x510) (s515:-9223372036854775808≤v513) (s516:v513<9223372036854775808) (i':Int) (acc':Raw) (q0:(v519)=i') (q1:(v517)=acc') (R:Frm) (hR:R.pm=⟨ntOf Tryz.prog 53,[],[]⟩):Goes (KN w0) Tryz.prog R (lp Tryz.prog 53 0) (FL [pLs cI l,pI f,pB v1.1,pD v1.2,pB v4.1,pD v4.2,pI i,pB acc.1,pD acc.2] []) zcT .n (FL [pLs cI l,pI f,pB v1.1,pD v1.2,pB v4.1,pD v4.2,pI i',pB acc'.1,pD acc'.2] []) zcT:=
 goes (Fb:=FL [pLs cI l,pI f,pB v1.1,pD v1.2,pB v4.1,pD v4.2,pI i,pB acc.1,pD acc.2,pI v501,pB v502,pI v504,pB v505,pB v507.1,pD v507.2,pB v508,pP (cI x510),pI x510,pI v513,pB v514.1,pD v514.2,pB v517.1,pD v517.2,pB v518,pI v519] []) (stb:=zcT) (tl:=[.sl 0 (.o (.c (.h 0))),.sl 1 (.o (.c (.h 1))),.sl 4 (.o (.c (.p 0 0))),.sl 5 (.o (.c (.p 2 0))),.sl 6 (.o (.c (.p 5 0))),.sl 7 (.o (.c (.h 24))),.sl 8 (.o (.g [.h 2,.h 3])),.sl 9 (.o (.g [.h 4,.h 5])),.sl 10 (.o (.c (.h 1))),.bx 0 26 [.k (.bool false),.k (.slice none 0 0)],.bx 2 26 [.h 21,.h 22],.bx 5 26 [.h 4,.h 5]]) (C:=[(1005002,.op (.len [22] 3) [LF (.h 0)] [] (LF (.h 9))),
  (1005003,.bin .lss 3 (LF (.h 6)) (LF (.h 9)) (LF (.h 10))),
  (10010,.fb 10 true),
  (1005007,.bin .add 3 (LF (.h 1)) (LF (.k (.int .i64 3))) (LF (.h 11))),
  (1005008,.bin .lss 3 (LF (.h 6)) (LF (.h 11)) (LF (.h 12))),
  (10012,.fb 12 true),
  (1005012,.call ⟨59,[.o (.g [.h 7,.h 8]),.o (.g [.h 4,.h 5])],[],.t [.g [.h 13,.h 14],.c (.h 15)],[]⟩),
  (1005020,.op (.ia 22) [LF (.h 0),LF (.h 6)] [] (LF (.h 16))),
  (1005021,.op (.ld 3) [LF (.h 16)] [] (LF (.h 17))),
  (1005022,.bin .rem 3 (LF (.h 17)) (LF (.k (.int .i64 4294967296))) (LF (.h 18))),
  (1005023,.call ⟨55,[.o (.c (.h 18))],[],.o (.g [.h 19,.h 20]),[]⟩),
  (1005024,.call ⟨60,[.o (.g [.h 13,.h 14]),.o (.g [.h 19,.h 20])],[],.t [.g [.h 21,.h 22],.c (.h 23)],[]⟩),
  (1005030,.bin .add 3 (LF (.h 6)) (LF (.k (.int .i64 1))) (LF (.h 24)))]) (H:=.no) 5000 (zipA.imp ⟨z_c (fun _ _ _ h=>h),z_c (fun _ _ _ h=>h),z_c (fun _ _ _ h=>h),z_c (fun _ _ _ h=>h),z_c (fun _ _ _ h=>h),z_c (fun _ _ _ h=>h),z_g ⟨fun _ _ _ h=>h,fun _ _ _ h=>h,trivial⟩,z_g ⟨fun _ _ _ h=>h,fun _ _ _ h=>h,trivial⟩,z_c (fun _ _ _ h=>h),z_b ⟨fun _ _ _ h=>h,fun _ _ _ h=>h,trivial⟩,z_b ⟨fun _ _ _ h=>h,fun _ _ _ h=>h,trivial⟩,z_b ⟨fun _ _ _ h=>h,fun _ _ _ h=>h,trivial⟩,trivial⟩) (zm ⟨(zC zE),za rfl,za rfl,ze,za rfl,ze,za rfl,za rfl,ze,za rfl,za rfl,za rfl,za rfl,za rfl,ze,za rfl,(zeM (zE _)),za rfl,za rfl,za rfl,ze,za rfl,ze,za rfl,za rfl,trivial⟩) ⟨zaP (E:=3) (by kernel_rfl) (zd rfl) (zb (by rw [← e501];rfl)),
  e_bin (zb rfl) (zb rfl) (zb rfl) (r_cmp (congrArg some e502)),
  e_fb (show pV (.bool v502)=_ by rw [h503]),
  e_bin (zb rfl) zg (zb rfl) (r_ar (congrArg some e504)),
  e_bin (zb rfl) (zb rfl) (zb rfl) (r_cmp (congrArg some e505)),
  e_fb (show pV (.bool v505)=_ by rw [h506]),
  zc (zqE acc v4 v507 v508 e507 e508) rfl rfl rfl rfl,
  e_iaL (E:=3) (z:=1) (fun _=>rfl) (by kernel_rfl) (by kernel_rfl) (zd rfl) (zb rfl) s511 s512 (zd rfl),
  e_ldP (by kernel_rfl) (zd rfl) (zd rfl),
  e_bin (zb rfl) zg (zb rfl) (r_ar ((zas (by decide)).trans (congrArg some e513))),
  zc (qy v513 v514 e514 s515 s516) rfl rfl rfl rfl,
  zc (zqD v507 v514 v517 v518 e517 e518) rfl rfl rfl rfl,
  e_bin (zb rfl) zg (zb rfl) (r_ar (congrArg some e519)),
  trivial⟩ mixed hR trivial (fun _ _ _ hs=>by cases hs) (by kernel_rfl:q7 (KN w0) Tryz.prog _ .no ⟨ntOf Tryz.prog 53,[],[]⟩ (lp Tryz.prog 53 0) 5000 zcT .n [.sl 0 (.o (.c (.h 0))),.sl 1 (.o (.c (.h 1))),.sl 4 (.o (.c (.p 0 0))),.sl 5 (.o (.c (.p 2 0))),.sl 6 (.o (.c (.p 5 0))),.sl 7 (.o (.c (.h 24))),.sl 8 (.o (.g [.h 2,.h 3])),.sl 9 (.o (.g [.h 4,.h 5])),.sl 10 (.o (.c (.h 1))),.bx 0 26 [.k (.bool false),.k (.slice none 0 0)],.bx 2 26 [.h 21,.h 22],.bx 5 26 [.h 4,.h 5]]=true) rfl (zipA.imp ⟨z_c (fun _ _ _ h=>h),z_c (fun _ _ _ h=>h),z_c (fun _ _ _ h=>h),z_c (fun _ _ _ h=>h),z_c (fun _ _ _ h=>h),z_c (fun β v W h=>(zd rfl β v W).2 (by rw [← q0];exact h)),z_g ⟨fun _ _ _ h=>h,fun _ _ _ h=>h,trivial⟩,z_g ⟨fun _ _ _ h=>h,fun _ _ _ h=>h,trivial⟩,z_c (fun _ _ _ h=>h),z_b ⟨fun _ _ _ h=>h,fun _ _ _ h=>h,trivial⟩,z_b ⟨fun β v W h=>(zd rfl β v W).2 (by rw [← q1];exact h),fun β v W h=>(zd rfl β v W).2 (by rw [← q1];exact h),trivial⟩,z_b ⟨fun _ _ _ h=>h,fun _ _ _ h=>h,trivial⟩,trivial⟩)
theorem nb_r1 {w0:World} (l:(List Int)) (f:Int) (v1:Raw) (v4:Raw) (i:Int) (acc:Raw) (v501:Int) (v502:Bool) (v504:Int) (v505:Bool) (e501:((l.length:Int))=v501) (e502:(decide (i<v501))=v502) (e504:(IntKind.i64.wrap (f+(3:Int)))=v504) (e505:(decide (i<v504))=v505) (h503:v502=true) (h506:v505=false) (acc2:Raw) (F:Fact) (u0:F.c 0=pLs cI l) (u1:F.c 1=pI f) (u2:F.c 2=pB v1.1) (u3:F.c 3=pD v1.2) (u4:F.c 4=pB v4.1) (u5:F.c 5=pD v4.2) (u6:F.c 6=pB acc2.1) (u7:F.c 7=pD acc2.2) (q0:(acc)=acc2) (R:Frm) (hR:R.pm=⟨ntOf Tryz.prog 53,[],[]⟩):Goes (KN w0) Tryz.prog R (lp Tryz.prog 53 0) (FL [pLs cI l,pI f,pB v1.1,pD v1.2,pB v4.1,pD v4.2,pI i,pB acc.1,pD acc.2] []) zcT (.x 0) F nb_S.out:=
 goes (Fb:=FL [pLs cI l,pI f,pB v1.1,pD v1.2,pB v4.1,pD v4.2,pI i,pB acc.1,pD acc.2,pI v501,pB v502,pI v504,pB v505] []) (stb:=zcT) (tl:=[.sl 0 (.o (.c (.h 0))),.sl 1 (.o (.c (.h 1))),.sl 4 (.o (.c (.p 0 0))),.sl 5 (.o (.c (.p 2 0))),.sl 6 (.o (.c (.p 5 0))),.sl 8 (.o (.g [.h 2,.h 3])),.sl 9 (.o (.g [.h 4,.h 5])),.sl 10 (.o (.c (.h 1))),.bx 0 26 [.k (.bool false),.k (.slice none 0 0)],.bx 2 26 [.h 7,.h 8],.bx 5 26 [.h 4,.h 5]]) (C:=[(1005002,.op (.len [22] 3) [LF (.h 0)] [] (LF (.h 9))),
  (1005003,.bin .lss 3 (LF (.h 6)) (LF (.h 9)) (LF (.h 10))),
  (10010,.fb 10 true),
  (1005007,.bin .add 3 (LF (.h 1)) (LF (.k (.int .i64 3))) (LF (.h 11))),
  (1005008,.bin .lss 3 (LF (.h 6)) (LF (.h 11)) (LF (.h 12))),
  (10012,.fb 12 false)]) (H:=.no) 5000 (zipA.imp ⟨z_c (fun _ _ _ h=>h),z_c (fun _ _ _ h=>h),z_c (fun _ _ _ h=>h),z_c (fun _ _ _ h=>h),z_c (fun _ _ _ h=>h),z_c (fun _ _ _ h=>h),z_g ⟨fun _ _ _ h=>h,fun _ _ _ h=>h,trivial⟩,z_g ⟨fun _ _ _ h=>h,fun _ _ _ h=>h,trivial⟩,z_c (fun _ _ _ h=>h),z_b ⟨fun _ _ _ h=>h,fun _ _ _ h=>h,trivial⟩,z_b ⟨fun _ _ _ h=>h,fun _ _ _ h=>h,trivial⟩,z_b ⟨fun _ _ _ h=>h,fun _ _ _ h=>h,trivial⟩,trivial⟩) (zm ⟨(zC zE),za rfl,za rfl,ze,za rfl,ze,za rfl,za rfl,ze,za rfl,za rfl,za rfl,za rfl,trivial⟩) ⟨zaP (E:=3) (by kernel_rfl) (zd rfl) (zb (by rw [← e501];rfl)),
  e_bin (zb rfl) (zb rfl) (zb rfl) (r_cmp (congrArg some e502)),
  e_fb (show pV (.bool v502)=_ by rw [h503]),
  e_bin (zb rfl) zg (zb rfl) (r_ar (congrArg some e504)),
  e_bin (zb rfl) (zb rfl) (zb rfl) (r_cmp (congrArg some e505)),
  e_fb (show pV (.bool v505)=_ by rw [h506]),
  trivial⟩ mixed hR trivial (fun _ _ _ hs=>by cases hs) (by kernel_rfl:q7 (KN w0) Tryz.prog _ .no ⟨ntOf Tryz.prog 53,[],[]⟩ (lp Tryz.prog 53 0) 5000 zcT (.x 0) [.sl 0 (.o (.c (.h 0))),.sl 1 (.o (.c (.h 1))),.sl 4 (.o (.c (.p 0 0))),.sl 5 (.o (.c (.p 2 0))),.sl 6 (.o (.c (.p 5 0))),.sl 8 (.o (.g [.h 2,.h 3])),.sl 9 (.o (.g [.h 4,.h 5])),.sl 10 (.o (.c (.h 1))),.bx 0 26 [.k (.bool false),.k (.slice none 0 0)],.bx 2 26 [.h 7,.h 8],.bx 5 26 [.h 4,.h 5]]=true) rfl (zipA.imp ⟨z_c (fun β v W h=>(zd u0 β v W).2 h),z_c (fun β v W h=>(zd u1 β v W).2 h),z_c (fun _ _ _ h=>h),z_c (fun _ _ _ h=>h),z_c (fun _ _ _ h=>h),z_g ⟨fun β v W h=>(zd u2 β v W).2 h,fun β v W h=>(zd u3 β v W).2 h,trivial⟩,z_g ⟨fun β v W h=>(zd u4 β v W).2 h,fun β v W h=>(zd u5 β v W).2 h,trivial⟩,z_c (fun β v W h=>(zd u1 β v W).2 h),z_b ⟨fun _ _ _ h=>h,fun _ _ _ h=>h,trivial⟩,z_b ⟨fun β v W h=>(zd u6 β v W).2 (by rw [← q0];exact h),fun β v W h=>(zd u7 β v W).2 (by rw [← q0];exact h),trivial⟩,z_b ⟨fun β v W h=>(zd u4 β v W).2 h,fun β v W h=>(zd u5 β v W).2 h,trivial⟩,trivial⟩)
theorem nb_r2 {w0:World} (l:(List Int)) (f:Int) (v1:Raw) (v4:Raw) (i:Int) (acc:Raw) (v501:Int) (v502:Bool) (e501:((l.length:Int))=v501) (e502:(decide (i<v501))=v502) (h503:v502=false) (acc2:Raw) (F:Fact) (u0:F.c 0=pLs cI l) (u1:F.c 1=pI f) (u2:F.c 2=pB v1.1) (u3:F.c 3=pD v1.2) (u4:F.c 4=pB v4.1) (u5:F.c 5=pD v4.2) (u6:F.c 6=pB acc2.1) (u7:F.c 7=pD acc2.2) (q0:(acc)=acc2) (R:Frm) (hR:R.pm=⟨ntOf Tryz.prog 53,[],[]⟩):Goes (KN w0) Tryz.prog R (lp Tryz.prog 53 0) (FL [pLs cI l,pI f,pB v1.1,pD v1.2,pB v4.1,pD v4.2,pI i,pB acc.1,pD acc.2] []) zcT (.x 0) F nb_S.out:=
 goes (Fb:=FL [pLs cI l,pI f,pB v1.1,pD v1.2,pB v4.1,pD v4.2,pI i,pB acc.1,pD acc.2,pI v501,pB v502] []) (stb:=zcT) (tl:=[.sl 0 (.o (.c (.h 0))),.sl 1 (.o (.c (.h 1))),.sl 4 (.o (.c (.p 0 0))),.sl 5 (.o (.c (.p 2 0))),.sl 6 (.o (.c (.p 5 0))),.sl 8 (.o (.g [.h 2,.h 3])),.sl 9 (.o (.g [.h 4,.h 5])),.sl 10 (.o (.c (.h 1))),.bx 0 26 [.k (.bool false),.k (.slice none 0 0)],.bx 2 26 [.h 7,.h 8],.bx 5 26 [.h 4,.h 5]]) (C:=[(1005002,.op (.len [22] 3) [LF (.h 0)] [] (LF (.h 9))),
  (1005003,.bin .lss 3 (LF (.h 6)) (LF (.h 9)) (LF (.h 10))),
  (10010,.fb 10 false)]) (H:=.no) 5000 (zipA.imp ⟨z_c (fun _ _ _ h=>h),z_c (fun _ _ _ h=>h),z_c (fun _ _ _ h=>h),z_c (fun _ _ _ h=>h),z_c (fun _ _ _ h=>h),z_c (fun _ _ _ h=>h),z_g ⟨fun _ _ _ h=>h,fun _ _ _ h=>h,trivial⟩,z_g ⟨fun _ _ _ h=>h,fun _ _ _ h=>h,trivial⟩,z_c (fun _ _ _ h=>h),z_b ⟨fun _ _ _ h=>h,fun _ _ _ h=>h,trivial⟩,z_b ⟨fun _ _ _ h=>h,fun _ _ _ h=>h,trivial⟩,z_b ⟨fun _ _ _ h=>h,fun _ _ _ h=>h,trivial⟩,trivial⟩) (zm ⟨(zC zE),za rfl,za rfl,ze,za rfl,ze,za rfl,za rfl,ze,za rfl,za rfl,trivial⟩) ⟨zaP (E:=3) (by kernel_rfl) (zd rfl) (zb (by rw [← e501];rfl)),
  e_bin (zb rfl) (zb rfl) (zb rfl) (r_cmp (congrArg some e502)),
  e_fb (show pV (.bool v502)=_ by rw [h503]),
  trivial⟩ mixed hR trivial (fun _ _ _ hs=>by cases hs) (by kernel_rfl:q7 (KN w0) Tryz.prog _ .no ⟨ntOf Tryz.prog 53,[],[]⟩ (lp Tryz.prog 53 0) 5000 zcT (.x 0) [.sl 0 (.o (.c (.h 0))),.sl 1 (.o (.c (.h 1))),.sl 4 (.o (.c (.p 0 0))),.sl 5 (.o (.c (.p 2 0))),.sl 6 (.o (.c (.p 5 0))),.sl 8 (.o (.g [.h 2,.h 3])),.sl 9 (.o (.g [.h 4,.h 5])),.sl 10 (.o (.c (.h 1))),.bx 0 26 [.k (.bool false),.k (.slice none 0 0)],.bx 2 26 [.h 7,.h 8],.bx 5 26 [.h 4,.h 5]]=true) rfl (zipA.imp ⟨z_c (fun β v W h=>(zd u0 β v W).2 h),z_c (fun β v W h=>(zd u1 β v W).2 h),z_c (fun _ _ _ h=>h),z_c (fun _ _ _ h=>h),z_c (fun _ _ _ h=>h),z_g ⟨fun β v W h=>(zd u2 β v W).2 h,fun β v W h=>(zd u3 β v W).2 h,trivial⟩,z_g ⟨fun β v W h=>(zd u4 β v W).2 h,fun β v W h=>(zd u5 β v W).2 h,trivial⟩,z_c (fun β v W h=>(zd u1 β v W).2 h),z_b ⟨fun _ _ _ h=>h,fun _ _ _ h=>h,trivial⟩,z_b ⟨fun β v W h=>(zd u6 β v W).2 (by rw [← q0];exact h),fun β v W h=>(zd u7 β v W).2 (by rw [← q0];exact h),trivial⟩,z_b ⟨fun β v W h=>(zd u4 β v W).2 h,fun β v W h=>(zd u5 β v W).2 h,trivial⟩,trivial⟩)
def nb_X (l:(List Int)) (f:Int) (v1:Raw) (v4:Raw) (t:nb_T) (acc2:Raw):Prop:=(∃(v501:Int),∃(v502:Bool),∃(v504:Int),∃(v505:Bool),(((l.length:Int))=v501)∧((decide (t.i<v501))=v502)∧((IntKind.i64.wrap (f+(3:Int)))=v504)∧((decide (t.i<v504))=v505)∧(v502=true)∧(v505=false)∧((t.acc)=acc2)∧True)∨(∃(v501:Int),∃(v502:Bool),(((l.length:Int))=v501)∧((decide (t.i<v501))=v502)∧(v502=false)∧((t.acc)=acc2)∧True)
def nb_N (l:(List Int)) (f:Int) (v1:Raw) (v4:Raw) (t t':nb_T):Prop:=(∃(v501:Int),∃(v502:Bool),∃(v504:Int),∃(v505:Bool),∃(v507:Raw),∃(v508:Bool),∃(n509:Nat),∃(x510:Int),∃(v513:Int),∃(v514:Raw),∃(v517:Raw),∃(v518:Bool),∃(v519:Int),(((l.length:Int))=v501)∧((decide (t.i<v501))=v502)∧((IntKind.i64.wrap (f+(3:Int)))=v504)∧((decide (t.i<v504))=v505)∧((nz (vO (mulX t.acc v4)))=v507)∧((okO (mulX t.acc v4))=v508)∧(((x510:Int).tmod (4294967296:Int))=v513)∧((nz v513)=v514)∧((nz (vO (addX v507 v514)))=v517)∧((okO (addX v507 v514))=v518)∧((IntKind.i64.wrap (t.i+(1:Int)))=v519)∧(v502=true)∧(v505=true)∧(t.i=(n509:Int))∧(l[n509]?=some x510)∧(-9223372036854775808≤v513)∧(v513<9223372036854775808)∧((v519)=t'.i)∧((v517)=t'.acc)∧True)
theorem zuh {w0:World} (l:(List Int)) (f:Int) (v1:Raw) (v4:Raw) (acc2:Raw) {F:Fact} (u0:F.c 0=pLs cI l) (u1:F.c 1=pI f) (u2:F.c 2=pB v1.1) (u3:F.c 3=pD v1.2) (u4:F.c 4=pB v4.1) (u5:F.c 5=pD v4.2) (u6:F.c 6=pB acc2.1) (u7:F.c 7=pD acc2.2) (R:Frm) (hR:R.pm=⟨ntOf Tryz.prog 53,[],[]⟩) (J:nb_T→Prop) (m:nb_T→Nat) (hJ:J { i:=f,acc:=v1 }) (rounds:∀t,J t→nb_X l f v1 v4 t acc2∨∃t',nb_N l f v1 v4 t t'∧m t'<m t∧J t'):zB (KN w0) Tryz.prog F R nb_S (lp Tryz.prog 53 0):=by
 refine za1 (T:=nb_T) (fun t=>FL [pLs cI l,pI f,pB v1.1,pD v1.2,pB v4.1,pD v4.2,pI t.i,pB t.acc.1,pD t.acc.2] []) J m { i:=f,acc:=v1 } zcT hJ (zipA.imp ⟨z_c (fun β v W h=>(zd u0 β v W).1 h),z_c (fun β v W h=>(zd u1 β v W).1 h),z_c (fun _ _ _ h=>h),z_c (fun _ _ _ h=>h),z_c (fun _ _ _ h=>h),z_c (fun β v W h=>(zd u1 β v W).1 h),z_g ⟨fun β v W h=>(zd u2 β v W).1 h,fun β v W h=>(zd u3 β v W).1 h,trivial⟩,z_g ⟨fun β v W h=>(zd u4 β v W).1 h,fun β v W h=>(zd u5 β v W).1 h,trivial⟩,z_c (fun β v W h=>(zd u1 β v W).1 h),z_b ⟨fun _ _ _ h=>h,fun _ _ _ h=>h,trivial⟩,z_b ⟨fun β v W h=>(zd u2 β v W).1 h,fun β v W h=>(zd u3 β v W).1 h,trivial⟩,z_b ⟨fun β v W h=>(zd u4 β v W).1 h,fun β v W h=>(zd u5 β v W).1 h,trivial⟩,trivial⟩) rfl fun t ht=>?_
 rcases rounds t ht with hz_ | ⟨t',hz_,hm_,hj_⟩
 ·refine .inl ?_
  rcases hz_ with ⟨v501,v502,v504,v505,e501,e502,e504,e505,h503,h506,q0,_⟩ | ⟨v501,v502,e501,e502,h503,q0,_⟩
  ·exact nb_r1  l f v1 v4  t.i t.acc v501 v502 v504 v505 e501 e502 e504 e505 h503 h506 acc2 F u0 u1 u2 u3 u4 u5 u6 u7 q0 R hR
  ·exact nb_r2  l f v1 v4  t.i t.acc v501 v502 e501 e502 h503 acc2 F u0 u1 u2 u3 u4 u5 u6 u7 q0 R hR
 ·refine .inr ⟨t',hm_,hj_,?_⟩
  rcases hz_ with ⟨v501,v502,v504,v505,v507,v508,n509,x510,v513,v514,v517,v518,v519,e501,e502,e504,e505,e507,e508,e513,e514,e517,e518,e519,h503,h506,s511,s512,s515,s516,q0,q1,_⟩
  ·exact nb_r0  l f v1 v4  t.i t.acc v501 v502 v504 v505 v507 v508 n509 x510 v513 v514 v517 v518 v519 e501 e502 e504 e505 e507 e508 e513 e514 e517 e518 e519 h503 h506 s511 s512 s515 s516 t'.i t'.acc q0 q1 R hR
theorem nb_ok {w0:World} (l:(List Int)) (f:Int) (v1:Raw) (v4:Raw) (acc2:Raw) {F:Fact} (u0:F.c 0=pLs cI l) (u1:F.c 1=pI f) (u2:F.c 2=pB v1.1) (u3:F.c 3=pD v1.2) (u4:F.c 4=pB v4.1) (u5:F.c 5=pD v4.2) (u6:F.c 6=pB acc2.1) (u7:F.c 7=pD acc2.2) (R:Frm) (hR:R.pm=⟨ntOf Tryz.prog 53,[],[]⟩) (g:Nat) (hf:f=(g:Int)) (hg:g≤100) (hv2:v1=nz 0) (hv5:v4=nz 4294967296) (ho:nz (numL ((l.drop g).take 3))=acc2):zB (KN w0) Tryz.prog F R nb_S (lp Tryz.prog 53 0):=by
 refine zuh  l f v1 v4  acc2 u0 u1 u2 u3 u4 u5 u6 u7 R hR (fun ⟨i,acc⟩=>∃k:Nat,i=((g+k:Nat):Int)∧k≤3∧(k=0∨g+k≤l.length)∧acc=nz (numL ((l.drop g).take k))) (fun ⟨i,acc⟩=>(g+3 - i).toNat) ⟨0,by rw [hf];simp,by omega,.inl rfl,by rw [hv2,List.take_zero];rfl⟩ fun t hJ=>?_
 obtain ⟨i,acc⟩:=t
 dsimp only at hJ
 obtain ⟨k,hi,hk,hkl,ha⟩:=hJ
 obtain ⟨v501,e501⟩:∃v,((l.length:Int))=v:=⟨_,rfl⟩
 obtain ⟨v502,e502⟩:∃v,(decide (i<v501))=v:=⟨_,rfl⟩
 cases h503:v502 with
 | true =>
  obtain ⟨v504,e504⟩:∃v,(IntKind.i64.wrap (f+(3:Int)))=v:=⟨_,rfl⟩
  obtain ⟨v505,e505⟩:∃v,(decide (i<v504))=v:=⟨_,rfl⟩
  cases h506:v505 with
  | true =>
   obtain ⟨v507,e507⟩:∃v,(nz (vO (mulX acc v4)))=v:=⟨_,rfl⟩
   obtain ⟨v508,e508⟩:∃v,(okO (mulX acc v4))=v:=⟨_,rfl⟩
   obtain ⟨n509,x510,s511,s512⟩:∃(n509:Nat) (x510:Int),i=(n509:Int)∧l[n509]?=some x510:=by (have hlt:g+k<l.length:=(by subst e501;subst e502;have:=of_decide_eq_true h503;omega);exact ⟨g+k,l[g+k],hi,List.getElem?_eq_getElem hlt⟩)
   obtain ⟨v513,e513⟩:∃v,((x510:Int).tmod (4294967296:Int))=v:=⟨_,rfl⟩
   obtain ⟨v514,e514⟩:∃v,(nz v513)=v:=⟨_,rfl⟩
   have s515:-9223372036854775808≤v513:=by (have:=zd7 x510;omega)
   have s516:v513<9223372036854775808:=by (have:=zd7 x510;omega)
   obtain ⟨v517,e517⟩:∃v,(nz (vO (addX v507 v514)))=v:=⟨_,rfl⟩
   obtain ⟨v518,e518⟩:∃v,(okO (addX v507 v514))=v:=⟨_,rfl⟩
   obtain ⟨v519,e519⟩:∃v,(IntKind.i64.wrap (i+(1:Int)))=v:=⟨_,rfl⟩
   refine .inr ⟨⟨v519,v517⟩,⟨v501,v502,v504,v505,v507,v508,n509,x510,v513,v514,v517,v518,v519,e501,e502,e504,e505,e507,e508,e513,e514,e517,e518,e519,h503,h506,s511,s512,s515,s516,rfl,rfl,trivial⟩,?_,?_⟩
   all_goals (subst hf;have h5:=of_decide_eq_true (e502.trans h503);have h6:=of_decide_eq_true (e505.trans h506);rw [wr64 (by omega)] at e504;rw [wr64 (by omega)] at e519)
   ·show ((g:Int)+3 - v519).toNat<((g:Int)+3 - i).toNat
    omega
   ·have en:n509=g+k:=by omega
    subst en
    have hs:=zpX s512
    have hb1:=zfP (l:=(l.drop g).take k) (by rw [List.length_take];omega)
    have hb2:=zi4 ((l.drop g).take k) (by rw [List.length_take];omega)
    have hx:=zd7 x510
    have hl3:=zi4 ((l.drop g).take (k+1)) (by rw [List.length_take];omega)
    rw [hs,zkv] at hl3
    have hk2:((l.drop g).take k).length≤2:=by rw [List.length_take];omega
    refine ⟨k+1,by omega,by omega,.inr (by omega),?_⟩
    rw [hs,zkv,← e517,← e514,← e513,← e507,ha,hv5]
    have hbb:∀z:Int,z.natAbs≤79228162532711081667253501951*4294967296→z.natAbs<big:=fun z hz=>Nat.lt_of_le_of_lt hz (by unfold big;decide +kernel)
    rw [zew hb1 (hbb _ (by decide)),zay (hbb _ (by omega))]
    show nz (vO (addX (nz (numL ((l.drop g).take k)*4294967296)) (nz (x510.tmod 4294967296))))=_
    rw [znS (hbb _ (by omega)) (hbb _ (by omega)),zay (hbb _ (by omega))];rfl
  | false =>
   refine .inl (Or.inl (⟨v501,v502,v504,v505,e501,e502,e504,e505,h503,h506,?_,trivial⟩))
   have h5:=of_decide_eq_true (e502.trans h503)
   have h6:=of_decide_eq_false (e505.trans h506)
   subst hf
   rw [wr64 (by omega)] at e504
   have:k=3:=by omega
   subst this
   rw [ha,← ho]
 | false =>
  refine .inl (Or.inr (⟨v501,v502,e501,e502,h503,?_,trivial⟩))
  have h5:=of_decide_eq_false (e502.trans h503)
  rw [ha,← ho]
  have e:((l.drop g).take 3)=(l.drop g).take k:=by
   rw [List.take_of_length_le (by rw [List.length_drop];omega),List.take_of_length_le (by rw [List.length_drop];omega)]
  rw [e]
theorem nb_p0 {w0:World} (l:(List Int)) (f:Int) (v1:Raw) (v4:Raw) (acc2:Raw) (e1:(nz (0:Int))=v1) (e4:(nz (4294967296:Int))=v4) (s2:-9223372036854775808≤(0:Int)) (s3:(0:Int)<9223372036854775808) (s5:-9223372036854775808≤(4294967296:Int)) (s6:(4294967296:Int)<9223372036854775808) (L_nb:∀R:Frm,R.pm=⟨ntOf Tryz.prog 53,[],[]⟩→zB (KN w0) Tryz.prog (FL [pLs cI l,pI f,pB v1.1,pD v1.2,pB v4.1,pD v4.2,pB acc2.1,pD acc2.2] []) R nb_S (lp Tryz.prog 53 0)):Fun (KN w0) Tryz.prog 53 [.o (.c (pLs cI l)),.o (.c (pI f))] (.o (.g [pB acc2.1,pD acc2.2])):=
 zi (zac (F:=FL [pLs cI l,pI f,pB v1.1,pD v1.2,pB v4.1,pD v4.2,pB acc2.1,pD acc2.2] []) (C:=[(1000001,.call ⟨55,[.o (.c (.k (.int .i64 0)))],[],.o (.g [.h 2,.h 3]),[]⟩),
  (1000004,.call ⟨55,[.o (.c (.k (.int .i64 4294967296)))],[],.o (.g [.h 4,.h 5]),[]⟩)]) (k:=⟨53,[.o (.c (.h 0)),.o (.c (.h 1))],[],.o (.g [.h 6,.h 7]),[]⟩) ⟨[nb_S],[],0⟩ [] 0 (zm ⟨(zC zE),za rfl,za rfl,ze,za rfl,ze,za rfl,ze,trivial⟩) ⟨zc (qy (0:Int) v1 e1 s2 s3) rfl rfl rfl rfl,
  zc (qy (4294967296:Int) v4 e4 s5 s6) rfl rfl rfl rfl,
  trivial⟩ mixed trivial (fun R hR p hp s hs=>by
 have hl:qm (zat Tryz.prog 53)=[(4,lp Tryz.prog 53 0)]:=by kernel_rfl
 rw [hl] at hp
 simp only [List.mem_cons,List.not_mem_nil,or_false] at hp
 rcases hp with rfl
 ·have e:s=nb_S:=(Option.some.inj hs).symm
  subst e;exact L_nb R hR) (by kernel_rfl)) rfl rfl rfl rfl
theorem zou {w0:World} (l:List Int) (f:Int) (g:Nat) (hf:f=(g:Int)) (hg:g≤100) (r:Raw) (hr:nz (numL ((l.drop g).take 3))=r):Fun (KN w0) Tryz.prog 53 [.o (.c (pLs cI l)),.o (.c (pI f))] (gN r):=by
 obtain ⟨v1,e1⟩:∃v,(nz (0:Int))=v:=⟨_,rfl⟩
 have s2:-9223372036854775808≤(0:Int):=by decide
 have s3:(0:Int)<9223372036854775808:=by decide
 obtain ⟨v4,e4⟩:∃v,(nz (4294967296:Int))=v:=⟨_,rfl⟩
 have s5:-9223372036854775808≤(4294967296:Int):=by decide
 have s6:(4294967296:Int)<9223372036854775808:=by decide
 obtain ⟨acc2,hO_nb⟩:∃(acc2:Raw),nz (numL ((l.drop g).take 3))=acc2:=⟨_,rfl⟩
 refine Fun.imp (nb_p0 l f v1 v4 acc2 e1 e4 s2 s3 s5 s6 (fun R hR=>nb_ok l f v1 v4  acc2 rfl rfl rfl rfl rfl rfl rfl rfl R hR g hf hg e1.symm e4.symm hO_nb)) (fun _ _ _ h=>h) (fun v W D h=>?_)
 have r0:r=acc2:=by
  rw [← hr];exact hO_nb
 rw [r0];exact h
theorem zfl {w0:World} (l:List Int) (f:Int) (r:Raw) (hr:nz (numL ((l.drop (f:Int).toNat).take 3))=r) (h:0≤f∧f≤100):Fun (KN w0) Tryz.prog 53 [.o (.c (pLs cI l)),.o (.c (pI f))] (gN r):=zou l f f.toNat (by omega) (by omega) r hr
end Go.Proofs.YtccjiodohphgnaaGreatDoor
namespace Go.Proofs.YtccjiodohphgnaaGreatDoor
open Go.RowKit Go.Shelf
theorem zoW {n m:Int} (h1:1≤m) (h2:m≤4611686018427387904):modI n m=n%m:=by
 have a:=Int.tmod_lt_of_pos n (show 0<m by omega)
 have b:=Int.lt_tmod_of_pos n (show 0<m by omega)
 unfold modI
 rw [if_neg (by omega),wr64 (by omega),Int.tmod_eq_emod_of_nonneg (by omega),Int.add_emod_right,Int.tmod_eq_emod]
 split
 ·simp
 ·have e:(m.natAbs:Int)=m:=by omega
  rw [e,Int.sub_emod,Int.emod_self];simp
def madeR (l:List Int):Option Rat:=
 if l.length<3 then ofR (if 0<l.length then (l.getD 0 0).tmod 50 else 0) (if 1<l.length then 1+l.getD 1 0%30 else 1)
 else ofR (numL (l.take 3)) (if numL ((l.drop 3).take 3)=0 then 1 else numL ((l.drop 3).take 3))
theorem zhZ {n d:Int} (h1:1≤d) (h2:d≤100) (h3:-100≤n) (h4:n≤100):fracR n d=ofR n d:=by
 unfold fracR
 rw [if_neg (by omega),zfS (qd (by omega)) (qd (by omega))]
theorem ze8 (x:Int):-49≤x.tmod 50∧x.tmod 50≤49:=by
 have h1:=Int.tmod_lt_of_pos x (show (0:Int)<50 by decide)
 have h2:=Int.lt_tmod_of_pos x (show (0:Int)<50 by decide)
 omega
theorem zl2 {d:Int} (h:d.natAbs<big):(cmpX (nz d) (nz 0) == 0)=decide (d=0):=zem h
theorem zhc (x:Int):0≤modI x 30∧modI x 30≤29:=by rw [zoW (by decide) (by decide)];omega
theorem zt6 {w0:World} (l:(List Int)) (v1:Int) (v2:Bool) (v4:Int) (v5:Bool) (n7:Nat) (x8:Int) (v11:Int) (v12:Int) (v13:Bool) (n15:Nat) (x16:Int) (v19:Int) (v20:Int) (v21:RR) (e1:((l.length:Int))=v1) (e2:(decide (v1<(3:Int)))=v2) (e4:((l.length:Int))=v4) (e5:(decide (v4 > (0:Int)))=v5) (e11:((x8:Int).tmod (50:Int))=v11) (e12:((l.length:Int))=v12) (e13:(decide (v12 > (1:Int)))=v13) (e19:(modI x16 (30:Int))=v19) (e20:(IntKind.i64.wrap ((1:Int)+v19))=v20) (e21:(rq (fracR (v11,v20).1 (v11,v20).2))=v21) (h3:v2=true) (h6:v5=true) (s9:(0:Int)=(n7:Int)) (s10:l[n7]?=some x8) (h14:v13=true) (s17:(1:Int)=(n15:Int)) (s18:l[n15]?=some x16) (s22:InR (v11,v20).1) (s23:InR (v11,v20).2):Fun (KN w0) Tryz.prog 12 [.o (.c (pLs cI l))] (.o (.g [pB v21.1.1,pD v21.1.2,pB v21.2.1,pD v21.2.2])):=
 zi (zl (F:=FL [pLs cI l,pI v1,pB v2,pI v4,pB v5,pP (cI x8),pI x8,pI v11,pI v12,pB v13,pP (cI x16),pI x16,pI v19,pI v20,pB v21.1.1,pD v21.1.2,pB v21.2.1,pD v21.2.2] []) (C:=[(1000002,.op (.len [22] 3) [LF (.h 0)] [] (LF (.h 1))),
  (1000003,.bin .lss 3 (LF (.h 1)) (LF (.k (.int .i64 3))) (LF (.h 2))),
  (10002,.fb 2 true),
  (1000008,.op (.len [22] 3) [LF (.h 0)] [] (LF (.h 3))),
  (1000009,.bin .gtr 3 (LF (.h 3)) (LF (.k (.int .i64 0))) (LF (.h 4))),
  (10004,.fb 4 true),
  (1000011,.op (.ia 22) [LF (.h 0),LF (.k (.int .i64 0))] [] (LF (.h 5))),
  (1000012,.op (.ld 3) [LF (.h 5)] [] (LF (.h 6))),
  (1000013,.bin .rem 3 (LF (.h 6)) (LF (.k (.int .i64 50))) (LF (.h 7))),
  (1000017,.op (.len [22] 3) [LF (.h 0)] [] (LF (.h 8))),
  (1000018,.bin .gtr 3 (LF (.h 8)) (LF (.k (.int .i64 1))) (LF (.h 9))),
  (10009,.fb 9 true),
  (1000020,.op (.ia 22) [LF (.h 0),LF (.k (.int .i64 1))] [] (LF (.h 10))),
  (1000021,.op (.ld 3) [LF (.h 10)] [] (LF (.h 11))),
  (1000022,.call ⟨30,[.o (.c (.h 11)),.o (.c (.k (.int .i64 30)))],[],.o (.c (.h 12)),[]⟩),
  (1000023,.bin .add 3 (LF (.k (.int .i64 1))) (LF (.h 12)) (LF (.h 13))),
  (1000027,.call ⟨37,[.o (.g [.h 7,.h 13])],[],.o (.g [.h 14,.h 15,.h 16,.h 17]),[]⟩)]) (k:=⟨12,[.o (.c (.h 0))],[],.o (.g [.h 14,.h 15,.h 16,.h 17]),[]⟩) 0 (zm ⟨(zC zE),za rfl,za rfl,za rfl,za rfl,(zeM (zE _)),za rfl,za rfl,za rfl,za rfl,(zeM (zE _)),za rfl,za rfl,za rfl,za rfl,ze,za rfl,ze,trivial⟩) ⟨zaP (E:=3) (by kernel_rfl) (zd rfl) (zb (by rw [← e1];rfl)),
  e_bin (zb rfl) zg (zb rfl) (r_cmp (congrArg some e2)),
  e_fb (show pV (.bool v2)=_ by rw [h3]),
  zaP (E:=3) (by kernel_rfl) (zd rfl) (zb (by rw [← e4];rfl)),
  e_bin (zb rfl) zg (zb rfl) (r_cmp (congrArg some e5)),
  e_fb (show pV (.bool v5)=_ by rw [h6]),
  e_iaL (E:=3) (z:=1) (fun _=>rfl) (by kernel_rfl) (by kernel_rfl) (zd rfl) zg s9 s10 (zd rfl),
  e_ldP (by kernel_rfl) (zd rfl) (zd rfl),
  e_bin (zb rfl) zg (zb rfl) (r_ar ((zas (by decide)).trans (congrArg some e11))),
  zaP (E:=3) (by kernel_rfl) (zd rfl) (zb (by rw [← e12];rfl)),
  e_bin (zb rfl) zg (zb rfl) (r_cmp (congrArg some e13)),
  e_fb (show pV (.bool v13)=_ by rw [h14]),
  e_iaL (E:=3) (z:=1) (fun _=>rfl) (by kernel_rfl) (by kernel_rfl) (zd rfl) zg s17 s18 (zd rfl),
  e_ldP (by kernel_rfl) (zd rfl) (zd rfl),
  zc (f_mod x16 (30:Int) v19 e19) rfl rfl rfl rfl,
  e_bin zg (zb rfl) (zb rfl) (r_ar (congrArg some e20)),
  zc (q9 (v11,v20) v21 e21 s22 s23) rfl rfl rfl rfl,
  trivial⟩ mixed (by kernel_rfl)) rfl rfl rfl rfl
theorem zt7 {w0:World} (l:(List Int)) (v1:Int) (v2:Bool) (v4:Int) (v5:Bool) (n7:Nat) (x8:Int) (v11:Int) (v12:Int) (v13:Bool) (v15:RR) (e1:((l.length:Int))=v1) (e2:(decide (v1<(3:Int)))=v2) (e4:((l.length:Int))=v4) (e5:(decide (v4 > (0:Int)))=v5) (e11:((x8:Int).tmod (50:Int))=v11) (e12:((l.length:Int))=v12) (e13:(decide (v12 > (1:Int)))=v13) (e15:(rq (fracR (v11,(1:Int)).1 (v11,(1:Int)).2))=v15) (h3:v2=true) (h6:v5=true) (s9:(0:Int)=(n7:Int)) (s10:l[n7]?=some x8) (h14:v13=false) (s16:InR (v11,(1:Int)).1) (s17:InR (v11,(1:Int)).2):Fun (KN w0) Tryz.prog 12 [.o (.c (pLs cI l))] (.o (.g [pB v15.1.1,pD v15.1.2,pB v15.2.1,pD v15.2.2])):=
 zi (zl (F:=FL [pLs cI l,pI v1,pB v2,pI v4,pB v5,pP (cI x8),pI x8,pI v11,pI v12,pB v13,pB v15.1.1,pD v15.1.2,pB v15.2.1,pD v15.2.2] []) (C:=[(1000002,.op (.len [22] 3) [LF (.h 0)] [] (LF (.h 1))),
  (1000003,.bin .lss 3 (LF (.h 1)) (LF (.k (.int .i64 3))) (LF (.h 2))),
  (10002,.fb 2 true),
  (1000008,.op (.len [22] 3) [LF (.h 0)] [] (LF (.h 3))),
  (1000009,.bin .gtr 3 (LF (.h 3)) (LF (.k (.int .i64 0))) (LF (.h 4))),
  (10004,.fb 4 true),
  (1000011,.op (.ia 22) [LF (.h 0),LF (.k (.int .i64 0))] [] (LF (.h 5))),
  (1000012,.op (.ld 3) [LF (.h 5)] [] (LF (.h 6))),
  (1000013,.bin .rem 3 (LF (.h 6)) (LF (.k (.int .i64 50))) (LF (.h 7))),
  (1000017,.op (.len [22] 3) [LF (.h 0)] [] (LF (.h 8))),
  (1000018,.bin .gtr 3 (LF (.h 8)) (LF (.k (.int .i64 1))) (LF (.h 9))),
  (10009,.fb 9 false),
  (1000020,.call ⟨37,[.o (.g [.h 7,.k (.int .i64 1)])],[],.o (.g [.h 10,.h 11,.h 12,.h 13]),[]⟩)]) (k:=⟨12,[.o (.c (.h 0))],[],.o (.g [.h 10,.h 11,.h 12,.h 13]),[]⟩) 0 (zm ⟨(zC zE),za rfl,za rfl,za rfl,za rfl,(zeM (zE _)),za rfl,za rfl,za rfl,za rfl,za rfl,ze,za rfl,ze,trivial⟩) ⟨zaP (E:=3) (by kernel_rfl) (zd rfl) (zb (by rw [← e1];rfl)),
  e_bin (zb rfl) zg (zb rfl) (r_cmp (congrArg some e2)),
  e_fb (show pV (.bool v2)=_ by rw [h3]),
  zaP (E:=3) (by kernel_rfl) (zd rfl) (zb (by rw [← e4];rfl)),
  e_bin (zb rfl) zg (zb rfl) (r_cmp (congrArg some e5)),
  e_fb (show pV (.bool v5)=_ by rw [h6]),
  e_iaL (E:=3) (z:=1) (fun _=>rfl) (by kernel_rfl) (by kernel_rfl) (zd rfl) zg s9 s10 (zd rfl),
  e_ldP (by kernel_rfl) (zd rfl) (zd rfl),
  e_bin (zb rfl) zg (zb rfl) (r_ar ((zas (by decide)).trans (congrArg some e11))),
  zaP (E:=3) (by kernel_rfl) (zd rfl) (zb (by rw [← e12];rfl)),
  e_bin (zb rfl) zg (zb rfl) (r_cmp (congrArg some e13)),
  e_fb (show pV (.bool v13)=_ by rw [h14]),
  zc (q9 (v11,(1:Int)) v15 e15 s16 s17) rfl rfl rfl rfl,
  trivial⟩ mixed (by kernel_rfl)) rfl rfl rfl rfl
theorem zt8 {w0:World} (l:(List Int)) (v1:Int) (v2:Bool) (v4:Int) (v5:Bool) (v7:Int) (v8:Bool) (n10:Nat) (x11:Int) (v14:Int) (v15:Int) (v16:RR) (e1:((l.length:Int))=v1) (e2:(decide (v1<(3:Int)))=v2) (e4:((l.length:Int))=v4) (e5:(decide (v4 > (0:Int)))=v5) (e7:((l.length:Int))=v7) (e8:(decide (v7 > (1:Int)))=v8) (e14:(modI x11 (30:Int))=v14) (e15:(IntKind.i64.wrap ((1:Int)+v14))=v15) (e16:(rq (fracR ((0:Int),v15).1 ((0:Int),v15).2))=v16) (h3:v2=true) (h6:v5=false) (h9:v8=true) (s12:(1:Int)=(n10:Int)) (s13:l[n10]?=some x11) (s17:InR ((0:Int),v15).1) (s18:InR ((0:Int),v15).2):Fun (KN w0) Tryz.prog 12 [.o (.c (pLs cI l))] (.o (.g [pB v16.1.1,pD v16.1.2,pB v16.2.1,pD v16.2.2])):=
 zi (zl (F:=FL [pLs cI l,pI v1,pB v2,pI v4,pB v5,pI v7,pB v8,pP (cI x11),pI x11,pI v14,pI v15,pB v16.1.1,pD v16.1.2,pB v16.2.1,pD v16.2.2] []) (C:=[(1000002,.op (.len [22] 3) [LF (.h 0)] [] (LF (.h 1))),
  (1000003,.bin .lss 3 (LF (.h 1)) (LF (.k (.int .i64 3))) (LF (.h 2))),
  (10002,.fb 2 true),
  (1000008,.op (.len [22] 3) [LF (.h 0)] [] (LF (.h 3))),
  (1000009,.bin .gtr 3 (LF (.h 3)) (LF (.k (.int .i64 0))) (LF (.h 4))),
  (10004,.fb 4 false),
  (1000011,.op (.len [22] 3) [LF (.h 0)] [] (LF (.h 5))),
  (1000012,.bin .gtr 3 (LF (.h 5)) (LF (.k (.int .i64 1))) (LF (.h 6))),
  (10006,.fb 6 true),
  (1000014,.op (.ia 22) [LF (.h 0),LF (.k (.int .i64 1))] [] (LF (.h 7))),
  (1000015,.op (.ld 3) [LF (.h 7)] [] (LF (.h 8))),
  (1000016,.call ⟨30,[.o (.c (.h 8)),.o (.c (.k (.int .i64 30)))],[],.o (.c (.h 9)),[]⟩),
  (1000017,.bin .add 3 (LF (.k (.int .i64 1))) (LF (.h 9)) (LF (.h 10))),
  (1000021,.call ⟨37,[.o (.g [.k (.int .i64 0),.h 10])],[],.o (.g [.h 11,.h 12,.h 13,.h 14]),[]⟩)]) (k:=⟨12,[.o (.c (.h 0))],[],.o (.g [.h 11,.h 12,.h 13,.h 14]),[]⟩) 0 (zm ⟨(zC zE),za rfl,za rfl,za rfl,za rfl,za rfl,za rfl,(zeM (zE _)),za rfl,za rfl,za rfl,za rfl,ze,za rfl,ze,trivial⟩) ⟨zaP (E:=3) (by kernel_rfl) (zd rfl) (zb (by rw [← e1];rfl)),
  e_bin (zb rfl) zg (zb rfl) (r_cmp (congrArg some e2)),
  e_fb (show pV (.bool v2)=_ by rw [h3]),
  zaP (E:=3) (by kernel_rfl) (zd rfl) (zb (by rw [← e4];rfl)),
  e_bin (zb rfl) zg (zb rfl) (r_cmp (congrArg some e5)),
  e_fb (show pV (.bool v5)=_ by rw [h6]),
  zaP (E:=3) (by kernel_rfl) (zd rfl) (zb (by rw [← e7];rfl)),
  e_bin (zb rfl) zg (zb rfl) (r_cmp (congrArg some e8)),
  e_fb (show pV (.bool v8)=_ by rw [h9]),
  e_iaL (E:=3) (z:=1) (fun _=>rfl) (by kernel_rfl) (by kernel_rfl) (zd rfl) zg s12 s13 (zd rfl),
  e_ldP (by kernel_rfl) (zd rfl) (zd rfl),
  zc (f_mod x11 (30:Int) v14 e14) rfl rfl rfl rfl,
  e_bin zg (zb rfl) (zb rfl) (r_ar (congrArg some e15)),
  zc (q9 ((0:Int),v15) v16 e16 s17 s18) rfl rfl rfl rfl,
  trivial⟩ mixed (by kernel_rfl)) rfl rfl rfl rfl
theorem zt9 {w0:World} (l:(List Int)) (v1:Int) (v2:Bool) (v4:Int) (v5:Bool) (v7:Int) (v8:Bool) (v10:RR) (e1:((l.length:Int))=v1) (e2:(decide (v1<(3:Int)))=v2) (e4:((l.length:Int))=v4) (e5:(decide (v4 > (0:Int)))=v5) (e7:((l.length:Int))=v7) (e8:(decide (v7 > (1:Int)))=v8) (e10:(rq (fracR ((0:Int),(1:Int)).1 ((0:Int),(1:Int)).2))=v10) (h3:v2=true) (h6:v5=false) (h9:v8=false) (s11:InR ((0:Int),(1:Int)).1) (s12:InR ((0:Int),(1:Int)).2):Fun (KN w0) Tryz.prog 12 [.o (.c (pLs cI l))] (.o (.g [pB v10.1.1,pD v10.1.2,pB v10.2.1,pD v10.2.2])):=
 zi (zl (F:=FL [pLs cI l,pI v1,pB v2,pI v4,pB v5,pI v7,pB v8,pB v10.1.1,pD v10.1.2,pB v10.2.1,pD v10.2.2] []) (C:=[(1000002,.op (.len [22] 3) [LF (.h 0)] [] (LF (.h 1))),
  (1000003,.bin .lss 3 (LF (.h 1)) (LF (.k (.int .i64 3))) (LF (.h 2))),
  (10002,.fb 2 true),
  (1000008,.op (.len [22] 3) [LF (.h 0)] [] (LF (.h 3))),
  (1000009,.bin .gtr 3 (LF (.h 3)) (LF (.k (.int .i64 0))) (LF (.h 4))),
  (10004,.fb 4 false),
  (1000011,.op (.len [22] 3) [LF (.h 0)] [] (LF (.h 5))),
  (1000012,.bin .gtr 3 (LF (.h 5)) (LF (.k (.int .i64 1))) (LF (.h 6))),
  (10006,.fb 6 false),
  (1000014,.call ⟨37,[.o (.g [.k (.int .i64 0),.k (.int .i64 1)])],[],.o (.g [.h 7,.h 8,.h 9,.h 10]),[]⟩)]) (k:=⟨12,[.o (.c (.h 0))],[],.o (.g [.h 7,.h 8,.h 9,.h 10]),[]⟩) 0 (zm ⟨(zC zE),za rfl,za rfl,za rfl,za rfl,za rfl,za rfl,za rfl,ze,za rfl,ze,trivial⟩) ⟨zaP (E:=3) (by kernel_rfl) (zd rfl) (zb (by rw [← e1];rfl)),
  e_bin (zb rfl) zg (zb rfl) (r_cmp (congrArg some e2)),
  e_fb (show pV (.bool v2)=_ by rw [h3]),
  zaP (E:=3) (by kernel_rfl) (zd rfl) (zb (by rw [← e4];rfl)),
  e_bin (zb rfl) zg (zb rfl) (r_cmp (congrArg some e5)),
  e_fb (show pV (.bool v5)=_ by rw [h6]),
  zaP (E:=3) (by kernel_rfl) (zd rfl) (zb (by rw [← e7];rfl)),
  e_bin (zb rfl) zg (zb rfl) (r_cmp (congrArg some e8)),
  e_fb (show pV (.bool v8)=_ by rw [h9]),
  zc (q9 ((0:Int),(1:Int)) v10 e10 s11 s12) rfl rfl rfl rfl,
  trivial⟩ mixed (by kernel_rfl)) rfl rfl rfl rfl
theorem zua {w0:World} (l:(List Int)) (v1:Int) (v2:Bool) (v4:Raw) (v6:Raw) (v9:Int) (v10:Bool) (v12:Raw) (v15:Raw) (v17:RR) (v18:Bool) (e1:((l.length:Int))=v1) (e2:(decide (v1<(3:Int)))=v2) (e4:(nz (numL ((l.drop ((3:Int):Int).toNat).take 3)))=v4) (e6:(nz (0:Int))=v6) (e9:(cmpX v4 v6)=v9) (e10:((v9 == (0:Int)))=v10) (e12:(nz (1:Int))=v12) (e15:(nz (numL ((l.drop ((0:Int):Int).toNat).take 3)))=v15) (e17:(rq (ofX v15 v12))=v17) (e18:((ofX v15 v12).isSome)=v18) (h3:v2=false) (s5:0≤(3:Int)∧(3:Int)≤100) (s7:-9223372036854775808≤(0:Int)) (s8:(0:Int)<9223372036854775808) (h11:v10=true) (s13:-9223372036854775808≤(1:Int)) (s14:(1:Int)<9223372036854775808) (s16:0≤(0:Int)∧(0:Int)≤100):Fun (KN w0) Tryz.prog 12 [.o (.c (pLs cI l))] (.o (.g [pB v17.1.1,pD v17.1.2,pB v17.2.1,pD v17.2.2])):=
 zi (zl (F:=FL [pLs cI l,pI v1,pB v2,pB v4.1,pD v4.2,pB v6.1,pD v6.2,pI v9,pB v10,pB v12.1,pD v12.2,pB v15.1,pD v15.2,pB v17.1.1,pD v17.1.2,pB v17.2.1,pD v17.2.2,pB v18] []) (C:=[(1000002,.op (.len [22] 3) [LF (.h 0)] [] (LF (.h 1))),
  (1000003,.bin .lss 3 (LF (.h 1)) (LF (.k (.int .i64 3))) (LF (.h 2))),
  (10002,.fb 2 false),
  (1000005,.call ⟨53,[.o (.c (.h 0)),.o (.c (.k (.int .i64 3)))],[],.o (.g [.h 3,.h 4]),[]⟩),
  (1000009,.call ⟨55,[.o (.c (.k (.int .i64 0)))],[],.o (.g [.h 5,.h 6]),[]⟩),
  (1000010,.call ⟨54,[.o (.g [.h 3,.h 4]),.o (.g [.h 5,.h 6])],[],.o (.c (.h 7)),[]⟩),
  (1000011,.bin .eql 3 (LF (.h 7)) (LF (.k (.int .i64 0))) (LF (.h 8))),
  (10008,.fb 8 true),
  (1000012,.call ⟨55,[.o (.c (.k (.int .i64 1)))],[],.o (.g [.h 9,.h 10]),[]⟩),
  (1000015,.call ⟨53,[.o (.c (.h 0)),.o (.c (.k (.int .i64 0)))],[],.o (.g [.h 11,.h 12]),[]⟩),
  (1000017,.call ⟨47,[.o (.g [.h 11,.h 12]),.o (.g [.h 9,.h 10])],[],.t [.g [.h 13,.h 14,.h 15,.h 16],.c (.h 17)],[]⟩)]) (k:=⟨12,[.o (.c (.h 0))],[],.o (.g [.h 13,.h 14,.h 15,.h 16]),[]⟩) 0 (zm ⟨(zC zE),za rfl,za rfl,za rfl,ze,za rfl,ze,za rfl,za rfl,za rfl,ze,za rfl,ze,za rfl,ze,za rfl,ze,za rfl,trivial⟩) ⟨zaP (E:=3) (by kernel_rfl) (zd rfl) (zb (by rw [← e1];rfl)),
  e_bin (zb rfl) zg (zb rfl) (r_cmp (congrArg some e2)),
  e_fb (show pV (.bool v2)=_ by rw [h3]),
  zc (zfl l (3:Int) v4 e4 s5) rfl rfl rfl rfl,
  zc (qy (0:Int) v6 e6 s7 s8) rfl rfl rfl rfl,
  zc (q8 v4 v6 v9 e9) rfl rfl rfl rfl,
  e_bin (zb rfl) zg (zb rfl) (r_cmp (congrArg some e10)),
  e_fb (show pV (.bool v10)=_ by rw [h11]),
  zc (qy (1:Int) v12 e12 s13 s14) rfl rfl rfl rfl,
  zc (zfl l (0:Int) v15 e15 s16) rfl rfl rfl rfl,
  zc (zby v15 v12 v17 v18 e17 e18) rfl rfl rfl rfl,
  trivial⟩ mixed (by kernel_rfl)) rfl rfl rfl rfl
theorem zub {w0:World} (l:(List Int)) (v1:Int) (v2:Bool) (v4:Raw) (v6:Raw) (v9:Int) (v10:Bool) (v12:Raw) (v14:RR) (v15:Bool) (e1:((l.length:Int))=v1) (e2:(decide (v1<(3:Int)))=v2) (e4:(nz (numL ((l.drop ((3:Int):Int).toNat).take 3)))=v4) (e6:(nz (0:Int))=v6) (e9:(cmpX v4 v6)=v9) (e10:((v9 == (0:Int)))=v10) (e12:(nz (numL ((l.drop ((0:Int):Int).toNat).take 3)))=v12) (e14:(rq (ofX v12 v4))=v14) (e15:((ofX v12 v4).isSome)=v15) (h3:v2=false) (s5:0≤(3:Int)∧(3:Int)≤100) (s7:-9223372036854775808≤(0:Int)) (s8:(0:Int)<9223372036854775808) (h11:v10=false) (s13:0≤(0:Int)∧(0:Int)≤100):Fun (KN w0) Tryz.prog 12 [.o (.c (pLs cI l))] (.o (.g [pB v14.1.1,pD v14.1.2,pB v14.2.1,pD v14.2.2])):=
 zi (zl (F:=FL [pLs cI l,pI v1,pB v2,pB v4.1,pD v4.2,pB v6.1,pD v6.2,pI v9,pB v10,pB v12.1,pD v12.2,pB v14.1.1,pD v14.1.2,pB v14.2.1,pD v14.2.2,pB v15] []) (C:=[(1000002,.op (.len [22] 3) [LF (.h 0)] [] (LF (.h 1))),
  (1000003,.bin .lss 3 (LF (.h 1)) (LF (.k (.int .i64 3))) (LF (.h 2))),
  (10002,.fb 2 false),
  (1000005,.call ⟨53,[.o (.c (.h 0)),.o (.c (.k (.int .i64 3)))],[],.o (.g [.h 3,.h 4]),[]⟩),
  (1000009,.call ⟨55,[.o (.c (.k (.int .i64 0)))],[],.o (.g [.h 5,.h 6]),[]⟩),
  (1000010,.call ⟨54,[.o (.g [.h 3,.h 4]),.o (.g [.h 5,.h 6])],[],.o (.c (.h 7)),[]⟩),
  (1000011,.bin .eql 3 (LF (.h 7)) (LF (.k (.int .i64 0))) (LF (.h 8))),
  (10008,.fb 8 false),
  (1000013,.call ⟨53,[.o (.c (.h 0)),.o (.c (.k (.int .i64 0)))],[],.o (.g [.h 9,.h 10]),[]⟩),
  (1000015,.call ⟨47,[.o (.g [.h 9,.h 10]),.o (.g [.h 3,.h 4])],[],.t [.g [.h 11,.h 12,.h 13,.h 14],.c (.h 15)],[]⟩)]) (k:=⟨12,[.o (.c (.h 0))],[],.o (.g [.h 11,.h 12,.h 13,.h 14]),[]⟩) 0 (zm ⟨(zC zE),za rfl,za rfl,za rfl,ze,za rfl,ze,za rfl,za rfl,za rfl,ze,za rfl,ze,za rfl,ze,za rfl,trivial⟩) ⟨zaP (E:=3) (by kernel_rfl) (zd rfl) (zb (by rw [← e1];rfl)),
  e_bin (zb rfl) zg (zb rfl) (r_cmp (congrArg some e2)),
  e_fb (show pV (.bool v2)=_ by rw [h3]),
  zc (zfl l (3:Int) v4 e4 s5) rfl rfl rfl rfl,
  zc (qy (0:Int) v6 e6 s7 s8) rfl rfl rfl rfl,
  zc (q8 v4 v6 v9 e9) rfl rfl rfl rfl,
  e_bin (zb rfl) zg (zb rfl) (r_cmp (congrArg some e10)),
  e_fb (show pV (.bool v10)=_ by rw [h11]),
  zc (zfl l (0:Int) v12 e12 s13) rfl rfl rfl rfl,
  zc (zby v12 v4 v14 v15 e14 e15) rfl rfl rfl rfl,
  trivial⟩ mixed (by kernel_rfl)) rfl rfl rfl rfl
theorem qL {w0:World} (l:List Int) (r:RR) (hr:rq (madeR l)=r):Fun (KN w0) Tryz.prog 12 [.o (.c (pLs cI l))] (gR r):=by
 obtain ⟨v1,e1⟩:∃v,((l.length:Int))=v:=⟨_,rfl⟩
 obtain ⟨v2,e2⟩:∃v,(decide (v1<(3:Int)))=v:=⟨_,rfl⟩
 cases h3:v2 with
 | true =>
  obtain ⟨v4,e4⟩:∃v,((l.length:Int))=v:=⟨_,rfl⟩
  obtain ⟨v5,e5⟩:∃v,(decide (v4 > (0:Int)))=v:=⟨_,rfl⟩
  cases h6:v5 with
  | true =>
   obtain ⟨n7,x8,s9,s10⟩:∃(n7:Nat) (x8:Int),(0:Int)=(n7:Int)∧l[n7]?=some x8:=by (have dh3:=of_decide_eq_true (e2.trans h3);have dh6:=of_decide_eq_true (e5.trans h6);have hlt:0<l.length:=(by omega);exact ⟨0,l[0],rfl,List.getElem?_eq_getElem hlt⟩)
   obtain ⟨v11,e11⟩:∃v,((x8:Int).tmod (50:Int))=v:=⟨_,rfl⟩
   obtain ⟨v12,e12⟩:∃v,((l.length:Int))=v:=⟨_,rfl⟩
   obtain ⟨v13,e13⟩:∃v,(decide (v12 > (1:Int)))=v:=⟨_,rfl⟩
   cases h14:v13 with
   | true =>
    obtain ⟨n15,x16,s17,s18⟩:∃(n15:Nat) (x16:Int),(1:Int)=(n15:Int)∧l[n15]?=some x16:=by (have dh3:=of_decide_eq_true (e2.trans h3);have dh6:=of_decide_eq_true (e5.trans h6);have dh14:=of_decide_eq_true (e13.trans h14);have hlt:1<l.length:=(by omega);exact ⟨1,l[1],rfl,List.getElem?_eq_getElem hlt⟩)
    obtain ⟨v19,e19⟩:∃v,(modI x16 (30:Int))=v:=⟨_,rfl⟩
    obtain ⟨v20,e20⟩:∃v,(IntKind.i64.wrap ((1:Int)+v19))=v:=⟨_,rfl⟩
    obtain ⟨v21,e21⟩:∃v,(rq (fracR (v11,v20).1 (v11,v20).2))=v:=⟨_,rfl⟩
    have s22:InR (v11,v20).1:=by first | (exact by decide) | (have:=ze8 x8;have:=zhc x16;rw [wr64 (by omega)] at e20;exact ⟨by simp only;omega,by simp only;omega⟩)
    have s23:InR (v11,v20).2:=by first | (exact by decide) | (have:=ze8 x8;have:=zhc x16;rw [wr64 (by omega)] at e20;exact ⟨by simp only;omega,by simp only;omega⟩)
    refine Fun.imp (zt6 l v1 v2 v4 v5 n7 x8 v11 v12 v13 n15 x16 v19 v20 v21 e1 e2 e4 e5 e11 e12 e13 e19 e20 e21 h3 h6 s9 s10 h14 s17 s18 s22 s23) (fun _ _ _ h=>h) (fun v W D h=>?_)
    have r0:r=v21:=by
     rw [← hr]
     unfold madeR
     have dh3:=of_decide_eq_true (e2.trans h3)
     have dh6:=of_decide_eq_true (e5.trans h6)
     have dh14:=of_decide_eq_true (e13.trans h14)
     have hl3:l.length<3:=(by omega)
     rw [if_pos hl3]
     have:=ze8 x8
     have:=zhc x16
     rw [wr64 (by omega)] at e20
     have en7:n7=0:=by omega
     have en15:n15=1:=by omega
     subst en7;subst en15
     have h0:0<l.length:=(List.getElem?_eq_some_iff.1 s10).1
     have h1:1<l.length:=(List.getElem?_eq_some_iff.1 s18).1
     rw [if_pos h0,if_pos h1,List.getD_eq_getElem?_getD,List.getD_eq_getElem?_getD,s10,s18,← e21]
     simp only [Option.getD_some]
     rw [zhZ (by omega) (by omega) (by omega) (by omega),e11,← e20,← e19,zoW (by decide) (by decide)]
    rw [r0];exact h
   | false =>
    obtain ⟨v15,e15⟩:∃v,(rq (fracR (v11,(1:Int)).1 (v11,(1:Int)).2))=v:=⟨_,rfl⟩
    have s16:InR (v11,(1:Int)).1:=by first | (exact by decide) | (have:=ze8 x8;exact ⟨by simp only;omega,by simp only;omega⟩)
    have s17:InR (v11,(1:Int)).2:=by first | (exact by decide) | (have:=ze8 x8;exact ⟨by simp only;omega,by simp only;omega⟩)
    refine Fun.imp (zt7 l v1 v2 v4 v5 n7 x8 v11 v12 v13 v15 e1 e2 e4 e5 e11 e12 e13 e15 h3 h6 s9 s10 h14 s16 s17) (fun _ _ _ h=>h) (fun v W D h=>?_)
    have r0:r=v15:=by
     rw [← hr]
     unfold madeR
     have dh3:=of_decide_eq_true (e2.trans h3)
     have dh6:=of_decide_eq_true (e5.trans h6)
     have dh14:=of_decide_eq_false (e13.trans h14)
     have hl3:l.length<3:=(by omega)
     rw [if_pos hl3]
     have:=ze8 x8
     have en7:n7=0:=by omega
     subst en7
     have h0:0<l.length:=(List.getElem?_eq_some_iff.1 s10).1
     have h1:¬ 1<l.length:=(by omega)
     rw [if_pos h0,if_neg h1,List.getD_eq_getElem?_getD,s10,← e15]
     simp only [Option.getD_some]
     rw [zhZ (by omega) (by omega) (by omega) (by omega),e11]
    rw [r0];exact h
  | false =>
   obtain ⟨v7,e7⟩:∃v,((l.length:Int))=v:=⟨_,rfl⟩
   obtain ⟨v8,e8⟩:∃v,(decide (v7 > (1:Int)))=v:=⟨_,rfl⟩
   cases h9:v8 with
   | true =>
    obtain ⟨n10,x11,s12,s13⟩:∃(n10:Nat) (x11:Int),(1:Int)=(n10:Int)∧l[n10]?=some x11:=by (have dh3:=of_decide_eq_true (e2.trans h3);have dh6:=of_decide_eq_false (e5.trans h6);have dh9:=of_decide_eq_true (e8.trans h9);have hlt:1<l.length:=(by omega);exact ⟨1,l[1],rfl,List.getElem?_eq_getElem hlt⟩)
    obtain ⟨v14,e14⟩:∃v,(modI x11 (30:Int))=v:=⟨_,rfl⟩
    obtain ⟨v15,e15⟩:∃v,(IntKind.i64.wrap ((1:Int)+v14))=v:=⟨_,rfl⟩
    obtain ⟨v16,e16⟩:∃v,(rq (fracR ((0:Int),v15).1 ((0:Int),v15).2))=v:=⟨_,rfl⟩
    have s17:InR ((0:Int),v15).1:=by first | (exact by decide) | (have:=zhc x11;rw [wr64 (by omega)] at e15;exact ⟨by simp only;omega,by simp only;omega⟩)
    have s18:InR ((0:Int),v15).2:=by first | (exact by decide) | (have:=zhc x11;rw [wr64 (by omega)] at e15;exact ⟨by simp only;omega,by simp only;omega⟩)
    refine Fun.imp (zt8 l v1 v2 v4 v5 v7 v8 n10 x11 v14 v15 v16 e1 e2 e4 e5 e7 e8 e14 e15 e16 h3 h6 h9 s12 s13 s17 s18) (fun _ _ _ h=>h) (fun v W D h=>?_)
    have r0:r=v16:=by
     rw [← hr]
     unfold madeR
     have dh3:=of_decide_eq_true (e2.trans h3)
     have dh6:=of_decide_eq_false (e5.trans h6)
     have dh9:=of_decide_eq_true (e8.trans h9)
     have hl3:l.length<3:=(by omega)
     rw [if_pos hl3]
     have:=zhc x11
     rw [wr64 (by omega)] at e15
     exfalso
     omega
    rw [r0];exact h
   | false =>
    obtain ⟨v10,e10⟩:∃v,(rq (fracR ((0:Int),(1:Int)).1 ((0:Int),(1:Int)).2))=v:=⟨_,rfl⟩
    have s11:InR ((0:Int),(1:Int)).1:=by first | (exact by decide) | (exact ⟨by simp only;omega,by simp only;omega⟩)
    have s12:InR ((0:Int),(1:Int)).2:=by first | (exact by decide) | (exact ⟨by simp only;omega,by simp only;omega⟩)
    refine Fun.imp (zt9 l v1 v2 v4 v5 v7 v8 v10 e1 e2 e4 e5 e7 e8 e10 h3 h6 h9 s11 s12) (fun _ _ _ h=>h) (fun v W D h=>?_)
    have r0:r=v10:=by
     rw [← hr]
     unfold madeR
     have dh3:=of_decide_eq_true (e2.trans h3)
     have dh6:=of_decide_eq_false (e5.trans h6)
     have dh9:=of_decide_eq_false (e8.trans h9)
     have hl3:l.length<3:=(by omega)
     rw [if_pos hl3]
     have h0:¬ 0<l.length:=(by omega)
     have h1:¬ 1<l.length:=(by omega)
     rw [if_neg h0,if_neg h1,← e10]
     rw [zhZ (by decide) (by decide) (by decide) (by decide)]
    rw [r0];exact h
 | false =>
  obtain ⟨v4,e4⟩:∃v,(nz (numL ((l.drop ((3:Int):Int).toNat).take 3)))=v:=⟨_,rfl⟩
  have s5:0≤(3:Int)∧(3:Int)≤100:=by first | decide | omega
  obtain ⟨v6,e6⟩:∃v,(nz (0:Int))=v:=⟨_,rfl⟩
  have s7:-9223372036854775808≤(0:Int):=by first | decide | omega
  have s8:(0:Int)<9223372036854775808:=by first | decide | omega
  obtain ⟨v9,e9⟩:∃v,(cmpX v4 v6)=v:=⟨_,rfl⟩
  obtain ⟨v10,e10⟩:∃v,((v9 == (0:Int)))=v:=⟨_,rfl⟩
  cases h11:v10 with
  | true =>
   obtain ⟨v12,e12⟩:∃v,(nz (1:Int))=v:=⟨_,rfl⟩
   have s13:-9223372036854775808≤(1:Int):=by first | decide | omega
   have s14:(1:Int)<9223372036854775808:=by first | decide | omega
   obtain ⟨v15,e15⟩:∃v,(nz (numL ((l.drop ((0:Int):Int).toNat).take 3)))=v:=⟨_,rfl⟩
   have s16:0≤(0:Int)∧(0:Int)≤100:=by first | decide | omega
   obtain ⟨v17,e17⟩:∃v,(rq (ofX v15 v12))=v:=⟨_,rfl⟩
   obtain ⟨v18,e18⟩:∃v,((ofX v15 v12).isSome)=v:=⟨_,rfl⟩
   refine Fun.imp (zua l v1 v2 v4 v6 v9 v10 v12 v15 v17 v18 e1 e2 e4 e6 e9 e10 e12 e15 e17 e18 h3 s5 s7 s8 h11 s13 s14 s16) (fun _ _ _ h=>h) (fun v W D h=>?_)
   have r0:r=v17:=by
    rw [← hr]
    unfold madeR
    have dh3:=of_decide_eq_false (e2.trans h3)
    have hl3:¬ l.length<3:=(by omega)
    rw [if_neg hl3]
    have b1:=zfP (l:=l.take 3) (by rw [List.length_take];omega)
    have b2:=zfP (l:=(l.drop 3).take 3) (by rw [List.length_take];omega)
    have e4':nz (numL ((l.drop 3).take 3))=v4:=e4
    have e15':nz (numL (l.take 3))=v15:=e15
    rw [← e4',← e6] at e9
    have hz:numL ((l.drop 3).take 3)=0:=by
     have:=(zl2 b2).symm.trans ((congrArg (· == (0:Int)) e9).trans (e10.trans h11))
     simpa using this
    rw [if_pos hz,← e17,← e15',← e12,zfS b1 (qd (by decide))]
   rw [r0];exact h
  | false =>
   obtain ⟨v12,e12⟩:∃v,(nz (numL ((l.drop ((0:Int):Int).toNat).take 3)))=v:=⟨_,rfl⟩
   have s13:0≤(0:Int)∧(0:Int)≤100:=by first | decide | omega
   obtain ⟨v14,e14⟩:∃v,(rq (ofX v12 v4))=v:=⟨_,rfl⟩
   obtain ⟨v15,e15⟩:∃v,((ofX v12 v4).isSome)=v:=⟨_,rfl⟩
   refine Fun.imp (zub l v1 v2 v4 v6 v9 v10 v12 v14 v15 e1 e2 e4 e6 e9 e10 e12 e14 e15 h3 s5 s7 s8 h11 s13) (fun _ _ _ h=>h) (fun v W D h=>?_)
   have r0:r=v14:=by
    rw [← hr]
    unfold madeR
    have dh3:=of_decide_eq_false (e2.trans h3)
    have hl3:¬ l.length<3:=(by omega)
    rw [if_neg hl3]
    have b1:=zfP (l:=l.take 3) (by rw [List.length_take];omega)
    have b2:=zfP (l:=(l.drop 3).take 3) (by rw [List.length_take];omega)
    have e4':nz (numL ((l.drop 3).take 3))=v4:=e4
    have e12':nz (numL (l.take 3))=v12:=e12
    rw [← e4',← e6] at e9
    have hz:numL ((l.drop 3).take 3)≠0:=by
     have:=(zl2 b2).symm.trans ((congrArg (· == (0:Int)) e9).trans (e10.trans h11))
     simpa using this
    rw [if_neg hz,← e14,← e12',← e4',zfS b1 b2]
   rw [r0];exact h
end Go.Proofs.YtccjiodohphgnaaGreatDoor
namespace Go.Proofs.YtccjiodohphgnaaGreatDoor
open Go.RowKit Go.Shelf
def zbL (r:RR) (a b:Int):Bool:=okO (flX r.1 r.2) && okO (ceX r.1 r.2) && decide (vO (flX r.1 r.2)=a) && decide (vO (ceX r.1 r.2)=b)
theorem zqz {w0:World} (n:Int) (d:Int) (v1:Raw) (v4:Raw) (v7:RR) (v8:Bool) (e1:(nz n)=v1) (e4:(nz d)=v4) (e7:(rq (ofX v1 v4))=v7) (e8:((ofX v1 v4).isSome)=v8) (s2:-9223372036854775808≤n) (s3:n<9223372036854775808) (s5:-9223372036854775808≤d) (s6:d<9223372036854775808):Fun (KN w0) Tryz.prog 51 [.o (.c (pI n)),.o (.c (pI d))] (.o (.g [pB v7.1.1,pD v7.1.2,pB v7.2.1,pD v7.2.2])):=
 zi (zl (F:=FL [pI n,pI d,pB v1.1,pD v1.2,pB v4.1,pD v4.2,pB v7.1.1,pD v7.1.2,pB v7.2.1,pD v7.2.2,pB v8] []) (C:=[(1000002,.call ⟨36,[.o (.c (.h 0))],[],.o (.g [.h 2,.h 3]),[]⟩),
  (1000004,.call ⟨36,[.o (.c (.h 1))],[],.o (.g [.h 4,.h 5]),[]⟩),
  (1000005,.call ⟨47,[.o (.g [.h 2,.h 3]),.o (.g [.h 4,.h 5])],[],.t [.g [.h 6,.h 7,.h 8,.h 9],.c (.h 10)],[]⟩)]) (k:=⟨51,[.o (.c (.h 0)),.o (.c (.h 1))],[],.o (.g [.h 6,.h 7,.h 8,.h 9]),[]⟩) 0 (zm ⟨za rfl,za rfl,za rfl,ze,za rfl,ze,za rfl,ze,za rfl,ze,za rfl,trivial⟩) ⟨zc (zcm n v1 e1 s2 s3) rfl rfl rfl rfl,
  zc (zcm d v4 e4 s5 s6) rfl rfl rfl rfl,
  zc (zby v1 v4 v7 v8 e7 e8) rfl rfl rfl rfl,
  trivial⟩ mixed (by kernel_rfl)) rfl rfl rfl rfl
theorem f_lof {w0:World} (n d:Int) (r:RR) (hr:rq (ofX (nz n) (nz d))=r) (h1:InR n) (h2:InR d):Fun (KN w0) Tryz.prog 51 [.o (.c (pI n)),.o (.c (pI d))] (gR r):=by
 obtain ⟨v1,e1⟩:∃v,(nz n)=v:=⟨_,rfl⟩
 have s2:-9223372036854775808≤n:=by first | exact h1.1 | exact h1.2 | exact h2.1 | exact h2.2
 have s3:n<9223372036854775808:=by first | exact h1.1 | exact h1.2 | exact h2.1 | exact h2.2
 obtain ⟨v4,e4⟩:∃v,(nz d)=v:=⟨_,rfl⟩
 have s5:-9223372036854775808≤d:=by first | exact h1.1 | exact h1.2 | exact h2.1 | exact h2.2
 have s6:d<9223372036854775808:=by first | exact h1.1 | exact h1.2 | exact h2.1 | exact h2.2
 obtain ⟨v7,e7⟩:∃v,(rq (ofX v1 v4))=v:=⟨_,rfl⟩
 obtain ⟨v8,e8⟩:∃v,((ofX v1 v4).isSome)=v:=⟨_,rfl⟩
 refine Fun.imp (zqz n d v1 v4 v7 v8 e1 e4 e7 e8 s2 s3 s5 s6) (fun _ _ _ h=>h) (fun v W D h=>?_)
 have r0:r=v7:=by
  subst_vars;rfl
 rw [r0];exact h
theorem zlc {w0:World} (r:RR) (ok:Bool) (n:Int) (d:Int) (v2:RR) (v5:Bool) (e2:(rq (ofX (nz n) (nz d)))=v2) (e5:(decide (r=v2))=v5) (h1:ok=true) (s3:InR n) (s4:InR d):Fun (KN w0) Tryz.prog 50 [.o (.g [pB r.1.1,pD r.1.2,pB r.2.1,pD r.2.2]),.o (.c (pB ok)),.o (.c (pI n)),.o (.c (pI d))] (.o (.c (pB v5))):=
 zi (zl (F:=FL [pB r.1.1,pD r.1.2,pB r.2.1,pD r.2.2,pB ok,pI n,pI d,pB v2.1.1,pD v2.1.2,pB v2.2.1,pD v2.2.2,pB v5] []) (C:=[(10004,.fb 4 true),
  (1000007,.call ⟨51,[.o (.c (.h 5)),.o (.c (.h 6))],[],.o (.g [.h 7,.h 8,.h 9,.h 10]),[]⟩),
  (1000008,.call ⟨17,[.o (.g [.h 0,.h 1,.h 2,.h 3]),.o (.g [.h 7,.h 8,.h 9,.h 10])],[],.o (.c (.h 11)),[]⟩)]) (k:=⟨50,[.o (.g [.h 0,.h 1,.h 2,.h 3]),.o (.c (.h 4)),.o (.c (.h 5)),.o (.c (.h 6))],[],.o (.c (.h 11)),[]⟩) 0 (zm ⟨za rfl,ze,za rfl,ze,za rfl,za rfl,za rfl,za rfl,ze,za rfl,ze,za rfl,trivial⟩) ⟨e_fb (show pV (.bool ok)=_ by rw [h1]),
  zc (f_lof n d v2 e2 s3 s4) rfl rfl rfl rfl,
  zc (zY r v2 v5 e5) rfl rfl rfl rfl,
  trivial⟩ mixed (by kernel_rfl)) rfl rfl rfl rfl
theorem zld {w0:World} (r:RR) (ok:Bool) (n:Int) (d:Int) (h1:ok=false):Fun (KN w0) Tryz.prog 50 [.o (.g [pB r.1.1,pD r.1.2,pB r.2.1,pD r.2.2]),.o (.c (pB ok)),.o (.c (pI n)),.o (.c (pI d))] (.o (.c (pV (.bool false)))):=
 zi (zl (F:=FL [pB r.1.1,pD r.1.2,pB r.2.1,pD r.2.2,pB ok,pI n,pI d] []) (C:=[(10004,.fb 4 false)]) (k:=⟨50,[.o (.g [.h 0,.h 1,.h 2,.h 3]),.o (.c (.h 4)),.o (.c (.h 5)),.o (.c (.h 6))],[],.o (.c (.k (.bool false))),[]⟩) 0 (zm ⟨za rfl,ze,za rfl,ze,za rfl,za rfl,za rfl,trivial⟩) ⟨e_fb (show pV (.bool ok)=_ by rw [h1]),
  trivial⟩ mixed (by kernel_rfl)) rfl rfl rfl rfl
theorem zbO {w0:World} (r:RR) (ok:Bool) (n d:Int) (o:Bool) (ho:(ok && decide (r=rq (ofX (nz n) (nz d))))=o) (i1:InR n) (i2:InR d):Fun (KN w0) Tryz.prog 50 [.o (.g [pB r.1.1,pD r.1.2,pB r.2.1,pD r.2.2]),.o (.c (pB ok)),.o (.c (pI n)),.o (.c (pI d))] (.o (.c (pB o))):=by
 rcases Bool.eq_false_or_eq_true ok with h1 | h1
 ·
  obtain ⟨v2,e2⟩:∃v,(rq (ofX (nz n) (nz d)))=v:=⟨_,rfl⟩
  have s3:InR n:=by first | exact i1 | exact i2
  have s4:InR d:=by first | exact i1 | exact i2
  obtain ⟨v5,e5⟩:∃v,(decide (r=v2))=v:=⟨_,rfl⟩
  refine Fun.imp (zlc r ok n d v2 v5 e2 e5 h1 s3 s4) (fun _ _ _ h=>h) (fun v W D h=>?_)
  have r0:o=v5:=by
   rw [← ho]
   subst_vars
   simp_all
  rw [r0];exact h
 ·
  refine Fun.imp (zld r ok n d h1) (fun _ _ _ h=>h) (fun v W D h=>?_)
  have r0:o=false:=by
   rw [← ho]
   subst_vars
   simp_all
  rw [r0];exact h
theorem zmM {w0:World} (r:RR) (ok:Bool) (v1:Bool) (v3:Bool) (e1:(!ok)=v1) (e3:(decide (r=(rq none)))=v3) (h2:v1=true):Fun (KN w0) Tryz.prog 35 [.o (.g [pB r.1.1,pD r.1.2,pB r.2.1,pD r.2.2]),.o (.c (pB ok))] (.o (.c (pB v3))):=
 zi (zl (F:=FL [pB r.1.1,pD r.1.2,pB r.2.1,pD r.2.2,pB ok,pB v1,pB v3] []) (C:=[(1000003,.un .not (LF (.h 4)) (LF (.h 5))),
  (10005,.fb 5 true),
  (1000007,.call ⟨17,[.o (.g [.h 0,.h 1,.h 2,.h 3]),.o (.g [.k (.bool false),.k (.slice none 0 0),.k (.bool false),.k (.slice none 0 0)])],[],.o (.c (.h 6)),[]⟩)]) (k:=⟨35,[.o (.g [.h 0,.h 1,.h 2,.h 3]),.o (.c (.h 4))],[],.o (.c (.h 6)),[]⟩) 0 (zm ⟨za rfl,ze,za rfl,ze,za rfl,za rfl,za rfl,trivial⟩) ⟨e_un (zb rfl) (zb rfl) (fun W=>by rw [← e1];exact r_not W),
  e_fb (show pV (.bool v1)=_ by rw [h2]),
  zc (Fun.imp (as2:=[.o (.g [pB r.1.1,pD r.1.2,pB r.2.1,pD r.2.2]),.o (.g [pV (.bool false),pV (.slice none 0 0),pV (.bool false),pV (.slice none 0 0)])]) (zY r (rq none) v3 e3) (zfU ⟨fun _ _ _ h=>h,fun _ _ _ h=>zga h,trivial⟩) (fun _ _ _ h=>h)) rfl rfl rfl rfl,
  trivial⟩ mixed (by kernel_rfl)) rfl rfl rfl rfl
theorem zmN {w0:World} (r:RR) (ok:Bool) (v1:Bool) (e1:(!ok)=v1) (h2:v1=false):Fun (KN w0) Tryz.prog 35 [.o (.g [pB r.1.1,pD r.1.2,pB r.2.1,pD r.2.2]),.o (.c (pB ok))] (.o (.c (pV (.bool false)))):=
 zi (zl (F:=FL [pB r.1.1,pD r.1.2,pB r.2.1,pD r.2.2,pB ok,pB v1] []) (C:=[(1000003,.un .not (LF (.h 4)) (LF (.h 5))),
  (10005,.fb 5 false)]) (k:=⟨35,[.o (.g [.h 0,.h 1,.h 2,.h 3]),.o (.c (.h 4))],[],.o (.c (.k (.bool false))),[]⟩) 0 (zm ⟨za rfl,ze,za rfl,ze,za rfl,za rfl,trivial⟩) ⟨e_un (zb rfl) (zb rfl) (fun W=>by rw [← e1];exact r_not W),
  e_fb (show pV (.bool v1)=_ by rw [h2]),
  trivial⟩ mixed (by kernel_rfl)) rfl rfl rfl rfl
theorem zdt {w0:World} (r:RR) (ok:Bool) (o:Bool) (ho:(!ok && decide (r=rq none))=o):Fun (KN w0) Tryz.prog 35 [.o (.g [pB r.1.1,pD r.1.2,pB r.2.1,pD r.2.2]),.o (.c (pB ok))] (.o (.c (pB o))):=by
 obtain ⟨v1,e1⟩:∃v,(!ok)=v:=⟨_,rfl⟩
 cases h2:v1 with
 | true =>
  obtain ⟨v3,e3⟩:∃v,(decide (r=(rq none)))=v:=⟨_,rfl⟩
  refine Fun.imp (zmM r ok v1 v3 e1 e3 h2) (fun _ _ _ h=>h) (fun v W D h=>?_)
  have r0:o=v3:=by
   rw [← ho]
   subst_vars
   simp_all
  rw [r0];exact h
 | false =>
  refine Fun.imp (zmN r ok v1 e1 h2) (fun _ _ _ h=>h) (fun v W D h=>?_)
  have r0:o=false:=by
   rw [← ho]
   subst_vars
   simp_all
  rw [r0];exact h
theorem zjI {w0:World} (r:RR) (a:Int) (b:Int) (v1:Int) (v2:Bool) (v3:Int) (v4:Bool) (v7:Bool) (v9:Bool) (e1:(vO (flX r.1 r.2))=v1) (e2:(okO (flX r.1 r.2))=v2) (e3:(vO (ceX r.1 r.2))=v3) (e4:(okO (ceX r.1 r.2))=v4) (e7:((v1 == a))=v7) (e9:((v3 == b))=v9) (h5:v2=true) (h6:v4=true) (h8:v7=true):Fun (KN w0) Tryz.prog 52 [.o (.g [pB r.1.1,pD r.1.2,pB r.2.1,pD r.2.2]),.o (.c (pI a)),.o (.c (pI b))] (.o (.c (pB v9))):=
 zi (zl (F:=FL [pB r.1.1,pD r.1.2,pB r.2.1,pD r.2.2,pI a,pI b,pI v1,pB v2,pI v3,pB v4,pB v7,pB v9] []) (C:=[(1000003,.call ⟨39,[.o (.g [.h 0,.h 1,.h 2,.h 3])],[],.t [.c (.h 6),.c (.h 7)],[]⟩),
  (1000010,.call ⟨41,[.o (.g [.h 0,.h 1,.h 2,.h 3])],[],.t [.c (.h 8),.c (.h 9)],[]⟩),
  (10007,.fb 7 true),
  (10009,.fb 9 true),
  (1000023,.bin .eql 3 (LF (.h 6)) (LF (.h 4)) (LF (.h 10))),
  (10010,.fb 10 true),
  (1000028,.bin .eql 3 (LF (.h 8)) (LF (.h 5)) (LF (.h 11)))]) (k:=⟨52,[.o (.g [.h 0,.h 1,.h 2,.h 3]),.o (.c (.h 4)),.o (.c (.h 5))],[],.o (.c (.h 11)),[]⟩) 0 (zm ⟨za rfl,ze,za rfl,ze,za rfl,za rfl,za rfl,za rfl,za rfl,za rfl,za rfl,za rfl,trivial⟩) ⟨zc (za6 r v1 v2 e1 e2) rfl rfl rfl rfl,
  zc (zb0 r v3 v4 e3 e4) rfl rfl rfl rfl,
  e_fb (show pV (.bool v2)=_ by rw [h5]),
  e_fb (show pV (.bool v4)=_ by rw [h6]),
  e_bin (zb rfl) (zb rfl) (zb rfl) (r_cmp (congrArg some e7)),
  e_fb (show pV (.bool v7)=_ by rw [h8]),
  e_bin (zb rfl) (zb rfl) (zb rfl) (r_cmp (congrArg some e9)),
  trivial⟩ mixed (by kernel_rfl)) rfl rfl rfl rfl
theorem zjJ {w0:World} (r:RR) (a:Int) (b:Int) (v1:Int) (v2:Bool) (v3:Int) (v4:Bool) (v7:Bool) (e1:(vO (flX r.1 r.2))=v1) (e2:(okO (flX r.1 r.2))=v2) (e3:(vO (ceX r.1 r.2))=v3) (e4:(okO (ceX r.1 r.2))=v4) (e7:((v1 == a))=v7) (h5:v2=true) (h6:v4=true) (h8:v7=false):Fun (KN w0) Tryz.prog 52 [.o (.g [pB r.1.1,pD r.1.2,pB r.2.1,pD r.2.2]),.o (.c (pI a)),.o (.c (pI b))] (.o (.c (pV (.bool false)))):=
 zi (zl (F:=FL [pB r.1.1,pD r.1.2,pB r.2.1,pD r.2.2,pI a,pI b,pI v1,pB v2,pI v3,pB v4,pB v7] []) (C:=[(1000003,.call ⟨39,[.o (.g [.h 0,.h 1,.h 2,.h 3])],[],.t [.c (.h 6),.c (.h 7)],[]⟩),
  (1000010,.call ⟨41,[.o (.g [.h 0,.h 1,.h 2,.h 3])],[],.t [.c (.h 8),.c (.h 9)],[]⟩),
  (10007,.fb 7 true),
  (10009,.fb 9 true),
  (1000023,.bin .eql 3 (LF (.h 6)) (LF (.h 4)) (LF (.h 10))),
  (10010,.fb 10 false)]) (k:=⟨52,[.o (.g [.h 0,.h 1,.h 2,.h 3]),.o (.c (.h 4)),.o (.c (.h 5))],[],.o (.c (.k (.bool false))),[]⟩) 0 (zm ⟨za rfl,ze,za rfl,ze,za rfl,za rfl,za rfl,za rfl,za rfl,za rfl,za rfl,trivial⟩) ⟨zc (za6 r v1 v2 e1 e2) rfl rfl rfl rfl,
  zc (zb0 r v3 v4 e3 e4) rfl rfl rfl rfl,
  e_fb (show pV (.bool v2)=_ by rw [h5]),
  e_fb (show pV (.bool v4)=_ by rw [h6]),
  e_bin (zb rfl) (zb rfl) (zb rfl) (r_cmp (congrArg some e7)),
  e_fb (show pV (.bool v7)=_ by rw [h8]),
  trivial⟩ mixed (by kernel_rfl)) rfl rfl rfl rfl
theorem zjK {w0:World} (r:RR) (a:Int) (b:Int) (v1:Int) (v2:Bool) (v3:Int) (v4:Bool) (e1:(vO (flX r.1 r.2))=v1) (e2:(okO (flX r.1 r.2))=v2) (e3:(vO (ceX r.1 r.2))=v3) (e4:(okO (ceX r.1 r.2))=v4) (h5:v2=true) (h6:v4=false):Fun (KN w0) Tryz.prog 52 [.o (.g [pB r.1.1,pD r.1.2,pB r.2.1,pD r.2.2]),.o (.c (pI a)),.o (.c (pI b))] (.o (.c (pV (.bool false)))):=
 zi (zl (F:=FL [pB r.1.1,pD r.1.2,pB r.2.1,pD r.2.2,pI a,pI b,pI v1,pB v2,pI v3,pB v4] []) (C:=[(1000003,.call ⟨39,[.o (.g [.h 0,.h 1,.h 2,.h 3])],[],.t [.c (.h 6),.c (.h 7)],[]⟩),
  (1000010,.call ⟨41,[.o (.g [.h 0,.h 1,.h 2,.h 3])],[],.t [.c (.h 8),.c (.h 9)],[]⟩),
  (10007,.fb 7 true),
  (10009,.fb 9 false)]) (k:=⟨52,[.o (.g [.h 0,.h 1,.h 2,.h 3]),.o (.c (.h 4)),.o (.c (.h 5))],[],.o (.c (.k (.bool false))),[]⟩) 0 (zm ⟨za rfl,ze,za rfl,ze,za rfl,za rfl,za rfl,za rfl,za rfl,za rfl,trivial⟩) ⟨zc (za6 r v1 v2 e1 e2) rfl rfl rfl rfl,
  zc (zb0 r v3 v4 e3 e4) rfl rfl rfl rfl,
  e_fb (show pV (.bool v2)=_ by rw [h5]),
  e_fb (show pV (.bool v4)=_ by rw [h6]),
  trivial⟩ mixed (by kernel_rfl)) rfl rfl rfl rfl
theorem zjL {w0:World} (r:RR) (a:Int) (b:Int) (v1:Int) (v2:Bool) (v3:Int) (v4:Bool) (e1:(vO (flX r.1 r.2))=v1) (e2:(okO (flX r.1 r.2))=v2) (e3:(vO (ceX r.1 r.2))=v3) (e4:(okO (ceX r.1 r.2))=v4) (h5:v2=false):Fun (KN w0) Tryz.prog 52 [.o (.g [pB r.1.1,pD r.1.2,pB r.2.1,pD r.2.2]),.o (.c (pI a)),.o (.c (pI b))] (.o (.c (pV (.bool false)))):=
 zi (zl (F:=FL [pB r.1.1,pD r.1.2,pB r.2.1,pD r.2.2,pI a,pI b,pI v1,pB v2,pI v3,pB v4] []) (C:=[(1000003,.call ⟨39,[.o (.g [.h 0,.h 1,.h 2,.h 3])],[],.t [.c (.h 6),.c (.h 7)],[]⟩),
  (1000010,.call ⟨41,[.o (.g [.h 0,.h 1,.h 2,.h 3])],[],.t [.c (.h 8),.c (.h 9)],[]⟩),
  (10007,.fb 7 false)]) (k:=⟨52,[.o (.g [.h 0,.h 1,.h 2,.h 3]),.o (.c (.h 4)),.o (.c (.h 5))],[],.o (.c (.k (.bool false))),[]⟩) 0 (zm ⟨za rfl,ze,za rfl,ze,za rfl,za rfl,za rfl,za rfl,za rfl,za rfl,trivial⟩) ⟨zc (za6 r v1 v2 e1 e2) rfl rfl rfl rfl,
  zc (zb0 r v3 v4 e3 e4) rfl rfl rfl rfl,
  e_fb (show pV (.bool v2)=_ by rw [h5]),
  trivial⟩ mixed (by kernel_rfl)) rfl rfl rfl rfl
theorem zfC {w0:World} (r:RR) (a b:Int) (o:Bool) (ho:zbL r a b=o):Fun (KN w0) Tryz.prog 52 [.o (.g [pB r.1.1,pD r.1.2,pB r.2.1,pD r.2.2]),.o (.c (pI a)),.o (.c (pI b))] (.o (.c (pB o))):=by
 obtain ⟨v1,e1⟩:∃v,(vO (flX r.1 r.2))=v:=⟨_,rfl⟩
 obtain ⟨v2,e2⟩:∃v,(okO (flX r.1 r.2))=v:=⟨_,rfl⟩
 obtain ⟨v3,e3⟩:∃v,(vO (ceX r.1 r.2))=v:=⟨_,rfl⟩
 obtain ⟨v4,e4⟩:∃v,(okO (ceX r.1 r.2))=v:=⟨_,rfl⟩
 cases h5:v2 with
 | true =>
  cases h6:v4 with
  | true =>
   obtain ⟨v7,e7⟩:∃v,((v1 == a))=v:=⟨_,rfl⟩
   cases h8:v7 with
   | true =>
    obtain ⟨v9,e9⟩:∃v,((v3 == b))=v:=⟨_,rfl⟩
    refine Fun.imp (zjI r a b v1 v2 v3 v4 v7 v9 e1 e2 e3 e4 e7 e9 h5 h6 h8) (fun _ _ _ h=>h) (fun v W D h=>?_)
    have r0:o=v9:=by
     rw [← ho]
     unfold zbL
     subst_vars
     simp_all<;>rfl
    rw [r0];exact h
   | false =>
    refine Fun.imp (zjJ r a b v1 v2 v3 v4 v7 e1 e2 e3 e4 e7 h5 h6 h8) (fun _ _ _ h=>h) (fun v W D h=>?_)
    have r0:o=false:=by
     rw [← ho]
     unfold zbL
     subst_vars
     simp_all<;>rfl
    rw [r0];exact h
  | false =>
   refine Fun.imp (zjK r a b v1 v2 v3 v4 e1 e2 e3 e4 h5 h6) (fun _ _ _ h=>h) (fun v W D h=>?_)
   have r0:o=false:=by
    rw [← ho]
    unfold zbL
    subst_vars
    simp_all<;>rfl
   rw [r0];exact h
 | false =>
  refine Fun.imp (zjL r a b v1 v2 v3 v4 e1 e2 e3 e4 h5) (fun _ _ _ h=>h) (fun v W D h=>?_)
  have r0:o=false:=by
   rw [← ho]
   unfold zbL
   subst_vars
   simp_all<;>rfl
  rw [r0];exact h
end Go.Proofs.YtccjiodohphgnaaGreatDoor
