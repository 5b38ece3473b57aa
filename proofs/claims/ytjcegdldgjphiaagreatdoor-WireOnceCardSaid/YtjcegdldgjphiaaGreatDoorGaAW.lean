/-
  Merged: WrD.
-/
import Derived.Test.YtjcegdldgjphiaaGreatDoorGaAV
set_option linter.unusedSimpArgs false
set_option linter.unusedVariables false
set_option maxRecDepth 100000
namespace Go.Proofs.YtjcegdldgjphiaaGreatDoor
open Go.RowKit Go.Shelf
theorem zlY {w0:World} (st:St):BFun false (KN w0) Tryz.prog 23 [.o (.c (.p 0 0))] [(62,[.d (pS (lfO st)),.d (pB (bdO st))])] (.o (.c (.d (pB (bdO st))))) [(62,[.d (pS (lfO st)),.d (pB (bdO st))])] :=
 con_b (pan:=false) (zl (F:=FL [pS (lfO st),pB (bdO st)] []) (C:=[(1000002,.bin .eql 45 (LF (.p 0 0)) (LF (.k (.pointer none))) (LF (.k (.bool false))))]) (k:=⟨23,[.o (.c (.p 0 0))],[.bx 0 62 [.h 0,.h 1]],.o (.c (.h 1)),[.bx 0 62 [.h 0,.h 1]]⟩) 0 (zf ⟨zb rfl,zb rfl,trivial⟩) ⟨zjh (by kernel_rfl),
  trivial⟩ mixed (by kernel_rfl)) (by kernel_rfl) rfl rfl rfl rfl
theorem w_bad {w0:World} (st:St) (o:Bool) (ho:bdO st=o):BFun false (KN w0) Tryz.prog 23 [.o (.c (.p 0 0))] [(62,[.d (pS (lfO st)),.d (pB (bdO st))])] (.o (.c (.d (pB o)))) [(62,[.d (pS (lfO st)),.d (pB (bdO st))])]:=by
 have r0:o=bdO st:=by
  rw [← ho]
 rw [r0];exact zlY st
theorem zbU {w0:World} (st:St):BFun false (KN w0) Tryz.prog 23 [.o (.c (.p 0 0))] [(62,[.d (pS (lfO st)),.d (pB (bdO st))])] (.o (.c (.d (pB (bdO st))))) [(62,[.d (pS (lfO st)),.d (pB (bdO st))])]:=w_bad st _ rfl
theorem zkt {w0:World} (st:St) (v1:Int) (e1:(((lfO st:List UInt8).length:Int))=v1):BFun false (KN w0) Tryz.prog 21 [.o (.c (.p 0 0))] [(62,[.d (pS (lfO st)),.d (pB (bdO st))])] (.o (.c (.d (pI v1)))) [(62,[.d (pS (lfO st)),.d (pB (bdO st))])] :=
 con_b (pan:=false) (zl (F:=FL [pS (lfO st),pB (bdO st),pI v1] []) (C:=[(1000002,.bin .eql 45 (LF (.p 0 0)) (LF (.k (.pointer none))) (LF (.k (.bool false)))),
  (1000007,.op (.len [9] 3) [LF (.h 0)] [] (LF (.h 2)))]) (k:=⟨21,[.o (.c (.p 0 0))],[.bx 0 62 [.h 0,.h 1]],.o (.c (.h 2)),[.bx 0 62 [.h 0,.h 1]]⟩) 0 (zf ⟨zb rfl,zb rfl,zb rfl,trivial⟩) ⟨zjh (by kernel_rfl),
  e_op1 (za rfl) (za rfl) (fun W=>by rw [← e1];exact zhL (by kernel_rfl) W),
  trivial⟩ mixed (by kernel_rfl)) (by kernel_rfl) rfl rfl rfl rfl
theorem zcU {w0:World} (st:St) (o:Int) (ho:(leftN st:Int)=o):BFun false (KN w0) Tryz.prog 21 [.o (.c (.p 0 0))] [(62,[.d (pS (lfO st)),.d (pB (bdO st))])] (.o (.c (.d (pI o)))) [(62,[.d (pS (lfO st)),.d (pB (bdO st))])]:=by
 obtain ⟨v1,e1⟩:∃v,(((lfO st:List UInt8).length:Int))=v:=⟨_,rfl⟩
 have r0:o=v1:=by
  rw [← ho,zd3,e1]
 rw [r0];exact zkt st v1 e1
theorem ziS {w0:World} (st:St):BFun false (KN w0) Tryz.prog 67 [.o (.c (.p 0 0))] [(62,[.d (pS (lfO st)),.d (pB (bdO st))])] (.t []) [(62,[.d (pV (.string ⟨#[]⟩)),.d (pV (.bool true))])] :=
 con_b (pan:=false) (zl (F:=FL [pS (lfO st),pB (bdO st)] []) (C:=[(1000001,.bin .neq 45 (LF (.p 0 0)) (LF (.k (.pointer none))) (LF (.k (.bool true))))]) (k:=⟨67,[.o (.c (.p 0 0))],[.bx 0 62 [.h 0,.h 1]],.t [],[.bx 0 62 [.k (.string ⟨#[]⟩),.k (.bool true)]]⟩) 0 (zf ⟨zb rfl,zb rfl,trivial⟩) ⟨zaA (by kernel_rfl),
  trivial⟩ mixed (by kernel_rfl)) (by kernel_rfl) rfl rfl rfl rfl
theorem zc2 {w0:World} (st:St):BFun false (KN w0) Tryz.prog 67 [.o (.c (.p 0 0))] [(62,[.d (pS (lfO st)),.d (pB (bdO st))])] (.t []) [(62,[.d (pV (.string ⟨#[]⟩)),.d (pV (.bool true))])]:=by
 exact ziS st
theorem w_new {w0:World} (s:(List UInt8)):NFun (KN w0) Tryz.prog 18 [.o (.c (pS s))] 62 [pS s,pV (.bool false)] :=
 zmV (F:=FL [pS s] []) (C:=[]) (as':=[.o (.c (.h 0))]) (ls:=[.h 0,.k (.bool false)]) ⟨[],[],0⟩ [] 0 (zf ⟨zb rfl,trivial⟩) trivial mixed trivial (fun _ _ _ _ _ hs=>by cases hs) (by kernel_rfl) rfl rfl
structure wrA_T where
 code:Int
 i:Int
def zC:List Atom:=[.sl 0 (.o (.c (.p 0 0))),.sl 3 (.o (.c (.h 5000))),.sl 6 (.o (.c (.p 0 0))),.sl 7 (.o (.c (.k (.bool false)))),.sl 8 (.o (.c (.p 0 0))),.sl 9 (.o (.c (.p 0 0))),.sl 10 (.o (.c (.p 0 0))),.sl 11 (.o (.c (.h 0))),.sl 12 (.o (.c (.h 1))),.sl 13 (.o (.c (.h 2))),.sl 14 (.o (.c (.h 3))),.bx 0 62 [.h 0,.k (.bool false)]]
def wrA_S:LoopS:=⟨5,[.sl 0 (.o (.c (.p 0 0))),.sl 3 (.o (.c (.k (.int .u64 0)))),.sl 6 (.o (.c (.p 0 0))),.sl 7 (.o (.c (.k (.bool false)))),.sl 8 (.o (.c (.p 0 0))),.sl 9 (.o (.c (.p 0 0))),.sl 10 (.o (.c (.p 0 0))),.sl 11 (.o (.c (.h 0))),.sl 12 (.o (.c (.h 1))),.sl 13 (.o (.c (.h 2))),.sl 14 (.o (.c (.k (.int .i64 0)))),.bx 0 62 [.h 0,.k (.bool false)]],.r,[.sl 0 (.o (.c (.p 0 0))),.sl 2 (.o (.c (.h 3))),.sl 6 (.o (.c (.p 0 0))),.sl 7 (.o (.c (.k (.bool false)))),.sl 8 (.o (.c (.p 0 0))),.sl 9 (.o (.c (.p 0 0))),.sl 10 (.o (.c (.p 0 0))),.sl 11 (.o (.c (.h 0))),.sl 12 (.o (.c (.h 1))),.sl 13 (.o (.c (.h 2))),.bx 0 62 [.h 4,.k (.bool false)]]⟩
theorem zoN {w0:World} (l:(List UInt8)) (v1:Int) (v2:Int) (code:Int) (i:Int) (v501:Bool) (n503:Nat) (b504:UInt8) (v507:Bool) (v509:Bool) (v511:Bool) (v513:Bool) (v515:Int) (v516:Int) (v517:Int) (v519:Int) (v520:Int) (v521:Bool) (v523:Int) (n524:Nat) (v526:(List UInt8)) (v528:Int) (v529:Int) (v530:Int) (v531:Int) (v532:Int) (v533:Int) (e501:(decide (i<v2))=v501) (e507:((i == (9:Int)))=v507) (e509:(decide ((b504.toNat:Int) > (1:Int)))=v509) (e511:(decide (i > (0:Int)))=v511) (e513:(((b504.toNat:Int) == (0:Int)))=v513) (e515:(IntKind.u8.wrap (BitVec.ofInt IntKind.u8.bits (b504.toNat:Int) &&& BitVec.ofInt IntKind.u8.bits (127:Int)).toNat)=v515) (e516:(IntKind.u64.wrap v515)=v516) (e517:(IntKind.i64.wrap ((7:Int)*i))=v517) (e519:(IntKind.u64.wrap (v516*2 ^ min (v517:Int).toNat IntKind.u64.bits))=v519) (e520:(IntKind.u64.wrap (BitVec.ofInt IntKind.u64.bits code ||| BitVec.ofInt IntKind.u64.bits v519).toNat)=v520) (e521:(decide ((b504.toNat:Int)<(128:Int)))=v521) (e523:(IntKind.i64.wrap (i+(1:Int)))=v523) (e526:((l:List UInt8).drop n524)=v526) (e528:((v520:Int).fdiv (2 ^ min ((1:Int):Int).toNat IntKind.u64.bits))=v528) (e529:(IntKind.i64.wrap v528)=v529) (e530:(IntKind.u64.wrap (BitVec.ofInt IntKind.u64.bits v520 &&& BitVec.ofInt IntKind.u64.bits (1:Int)).toNat)=v530) (e531:(IntKind.i64.wrap v530)=v531) (e532:(IntKind.i64.wrap (0 - v531))=v532) (e533:(IntKind.i64.wrap (BitVec.ofInt IntKind.i64.bits v529 ^^^ BitVec.ofInt IntKind.i64.bits v532).toNat)=v533) (h502:v501=true) (s505:i=(n503:Int)) (s506:(l:List UInt8)[n503]?=some b504) (h508:v507=true) (h510:v509=false) (h512:v511=true) (h514:v513=false) (s518:0≤v517) (h522:v521=true) (s525:v523=(n524:Int)) (s527:n524≤(l:List UInt8).length) (o:Int) (l2:(List UInt8)) (F:Fact) (u0:F.c 0=pS l) (u1:F.c 1=pI v1) (u2:F.c 2=pI v2) (u3:F.c 3=pI o) (u4:F.c 4=pS l2) (q0:(v533)=o) (q1:(v526)=l2) (R:Frm) (hR:R.pm=⟨ntOf Tryz.prog 36,[0],[]⟩):Goes (KN w0) Tryz.prog R (lp Tryz.prog 36 0) (FL [pS l,pI v1,pI v2,pI i] [] [(5000,pV (.int .u64 code))]) zC .r F wrA_S.out:=
 goes (x:=.r) (y:=.r) (Fb:=FL [pS l,pI v1,pI v2,pI i,pB v501,pV (.int .u8 (b504.toNat:Int)),pB v507,pB v509,pB v511,pB v513,pV (.int .u8 v515),pI v517,pB v521,pI v523,pS v526,pI v529,pI v531,pI v532,pI v533] [] [(5000,pV (.int .u64 code)),(5001,pV (.int .u64 v516)),(5002,pV (.int .u64 v519)),(5003,pV (.int .u64 v520)),(5004,pV (.int .u64 v528)),(5005,pV (.int .u64 v530))]) (stb:=zC) (tl:=[.sl 0 (.o (.c (.p 0 0))),.sl 2 (.o (.c (.h 18))),.sl 6 (.o (.c (.p 0 0))),.sl 7 (.o (.c (.k (.bool false)))),.sl 8 (.o (.c (.p 0 0))),.sl 9 (.o (.c (.p 0 0))),.sl 10 (.o (.c (.p 0 0))),.sl 11 (.o (.c (.h 0))),.sl 12 (.o (.c (.h 1))),.sl 13 (.o (.c (.h 2))),.bx 0 62 [.h 14,.k (.bool false)]]) (C:=((1005000,.bin .lss 3 (LF (.h 3)) (LF (.h 2)) (LF (.h 4))) ::
  (10004,.fb 4 true) ::
  (1005008,.op (.ix 9) [LF (.h 0),LF (.h 3)] [] (LF (.h 5))) ::
  (1005011,.bin .eql 3 (LF (.h 3)) (LF (.k (.int .i64 9))) (LF (.h 6))) ::
  (10006,.fb 6 true) ::
  (1005014,.bin .gtr 5 (LF (.h 5)) (LF (.k (.int .u8 1))) (LF (.h 7))) ::
  (10007,.fb 7 false) ::
  (1005018,.bin .gtr 3 (LF (.h 3)) (LF (.k (.int .i64 0))) (LF (.h 8))) ::
  (10008,.fb 8 true) ::
  (1005021,.bin .eql 5 (LF (.h 5)) (LF (.k (.int .u8 0))) (LF (.h 9))) ::
  (10009,.fb 9 false) ::
  (1005026,.bin .and 5 (LF (.h 5)) (LF (.k (.int .u8 127))) (LF (.h 10))) ::
  (1005027,.op (.cv 5 72) [LF (.h 10)] [] (LF (.h 5001))) ::
  (1005029,.bin .mul 3 (LF (.k (.int .i64 7))) (LF (.h 3)) (LF (.h 11))) ::
  (1005030,.bin .shl 72 (LF (.h 5001)) (LF (.h 11)) (LF (.h 5002))) ::
  (1005031,.bin .or 72 (LF (.h 5000)) (LF (.h 5002)) (LF (.h 5003))) ::
  (1005034,.bin .lss 5 (LF (.h 5)) (LF (.k (.int .u8 128))) (LF (.h 12))) ::
  (10012,.fb 12 true) ::
  (1005041,.bin .add 3 (LF (.h 3)) (LF (.k (.int .i64 1))) (LF (.h 13))) ::
  (1005042,.op (.sc 9 true false false) [LF (.h 0),LF (.h 13)] [] (LF (.h 14))) ::
  (1005047,.bin .shr 72 (LF (.h 5003)) (LF (.k (.int .u64 1))) (LF (.h 5004))) ::
  (1005048,.op (.cv 72 3) [LF (.h 5004)] [] (LF (.h 15))) ::
  (1005050,.bin .and 72 (LF (.h 5003)) (LF (.k (.int .u64 1))) (LF (.h 5005))) ::
  (1005051,.op (.cv 72 3) [LF (.h 5005)] [] (LF (.h 16))) ::
  (1005052,.un .neg (LF (.h 16)) (LF (.h 17))) ::
  (1005053,.bin .xor 3 (LF (.h 15)) (LF (.h 17)) (LF (.h 18))) ::
  []:List (Nat×Ent))) (H:=.no) 5000 (zipA.imp ⟨z_c (fun _ _ _ h=>h),z_c (fun _ _ _ h=>h),z_c (fun _ _ _ h=>h),z_c (fun _ _ _ h=>h),z_c (fun _ _ _ h=>h),z_c (fun _ _ _ h=>h),z_c (fun _ _ _ h=>h),z_c (fun _ _ _ h=>h),z_c (fun _ _ _ h=>h),z_c (fun _ _ _ h=>h),z_c (fun _ _ _ h=>h),z_b ⟨fun _ _ _ h=>h,fun _ _ _ h=>h,trivial⟩,trivial⟩) (zf ⟨zb rfl,zb rfl,zb rfl,zb rfl,zb rfl,zb rfl,zb rfl,zb rfl,zb rfl,zb rfl,zb rfl,zb rfl,zb rfl,zb rfl,zb rfl,zb rfl,zb rfl,zb rfl,zb rfl,trivial⟩ trivial ⟨⟨rfl,zh⟩,⟨rfl,zh⟩,⟨rfl,zh⟩,⟨rfl,zh⟩,⟨rfl,zh⟩,⟨rfl,zh⟩,trivial⟩) ⟨e_bin (za rfl) (za rfl) (za rfl) (r_cmp (congrArg some e501)),
  e_fb (show pV (.bool v501)=_ by rw [h502]),
  e_op2 (za rfl) (za rfl) (za rfl) (r_ix (by kernel_rfl) s505 s506),
  e_bin (za rfl) zd (za rfl) (r_cmp (congrArg some e507)),
  e_fb (show pV (.bool v507)=_ by rw [h508]),
  e_bin (za rfl) zd (za rfl) (r_cmp (congrArg some e509)),
  e_fb (show pV (.bool v509)=_ by rw [h510]),
  e_bin (za rfl) zd (za rfl) (r_cmp (congrArg some e511)),
  e_fb (show pV (.bool v511)=_ by rw [h512]),
  e_bin (za rfl) zd (za rfl) (r_cmp (congrArg some e513)),
  e_fb (show pV (.bool v513)=_ by rw [h514]),
  e_bin (za rfl) zd (za rfl) (zL (congrArg some e515)),
  e_op1 (za rfl) (za rfl) (fun W=>by rw [← e516];exact r_cvi (by kernel_rfl) (by kernel_rfl) W),
  e_bin zd (za rfl) (za rfl) (r_ar (congrArg some e517)),
  e_bin (za rfl) (za rfl) (za rfl) (fun W X Y=>by rw [← e519];exact r_shl s518 W X Y),
  e_bin (za rfl) (za rfl) (za rfl) (zL (congrArg some e520)),
  e_bin (za rfl) zd (za rfl) (r_cmp (congrArg some e521)),
  e_fb (show pV (.bool v521)=_ by rw [h522]),
  e_bin (za rfl) zd (za rfl) (r_ar (congrArg some e523)),
  e_op2 (za rfl) (za rfl) (za rfl) (fun W=>by rw [← e526];exact ze1 (by kernel_rfl) s525 s527 W),
  e_bin (za rfl) zd (za rfl) (fun W X Y=>by rw [← e528];exact r_shr (by decide) W X Y),
  e_op1 (za rfl) (za rfl) (fun W=>by rw [← e529];exact r_cvi (by kernel_rfl) (by kernel_rfl) W),
  e_bin (za rfl) zd (za rfl) (zL (congrArg some e530)),
  e_op1 (za rfl) (za rfl) (fun W=>by rw [← e531];exact r_cvi (by kernel_rfl) (by kernel_rfl) W),
  e_un (za rfl) (za rfl) (fun W=>by rw [← e532];exact r_neg W),
  e_bin (za rfl) (za rfl) (za rfl) (zL (congrArg some e533)),
  trivial⟩ mixed hR trivial (fun _ _ _ hs=>by cases hs) (by kernel_rfl:zz (KN w0) Tryz.prog _ .no ⟨ntOf Tryz.prog 36,[0],[]⟩ (lp Tryz.prog 36 0) 5000 zC .r [.sl 0 (.o (.c (.p 0 0))),.sl 2 (.o (.c (.h 18))),.sl 6 (.o (.c (.p 0 0))),.sl 7 (.o (.c (.k (.bool false)))),.sl 8 (.o (.c (.p 0 0))),.sl 9 (.o (.c (.p 0 0))),.sl 10 (.o (.c (.p 0 0))),.sl 11 (.o (.c (.h 0))),.sl 12 (.o (.c (.h 1))),.sl 13 (.o (.c (.h 2))),.bx 0 62 [.h 14,.k (.bool false)]]=true) rfl (zipA.imp ⟨z_c (fun _ _ _ h=>h),z_c (fun β v W h=>(zc u3 β v W).2 (by rw [← q0];exact h)),z_c (fun _ _ _ h=>h),z_c (fun _ _ _ h=>h),z_c (fun _ _ _ h=>h),z_c (fun _ _ _ h=>h),z_c (fun _ _ _ h=>h),z_c (fun β v W h=>(zc u0 β v W).2 h),z_c (fun β v W h=>(zc u1 β v W).2 h),z_c (fun β v W h=>(zc u2 β v W).2 h),z_b ⟨fun β v W h=>(zc u4 β v W).2 (by rw [← q1];exact h),fun _ _ _ h=>h,trivial⟩,trivial⟩)
theorem zoO {w0:World} (l:(List UInt8)) (v1:Int) (v2:Int) (code:Int) (i:Int) (v501:Bool) (n503:Nat) (b504:UInt8) (v507:Bool) (v509:Bool) (v511:Bool) (v513:Bool) (v515:Int) (v516:Int) (v517:Int) (v519:Int) (v520:Int) (v521:Bool) (v523:Int) (e501:(decide (i<v2))=v501) (e507:((i == (9:Int)))=v507) (e509:(decide ((b504.toNat:Int) > (1:Int)))=v509) (e511:(decide (i > (0:Int)))=v511) (e513:(((b504.toNat:Int) == (0:Int)))=v513) (e515:(IntKind.u8.wrap (BitVec.ofInt IntKind.u8.bits (b504.toNat:Int) &&& BitVec.ofInt IntKind.u8.bits (127:Int)).toNat)=v515) (e516:(IntKind.u64.wrap v515)=v516) (e517:(IntKind.i64.wrap ((7:Int)*i))=v517) (e519:(IntKind.u64.wrap (v516*2 ^ min (v517:Int).toNat IntKind.u64.bits))=v519) (e520:(IntKind.u64.wrap (BitVec.ofInt IntKind.u64.bits code ||| BitVec.ofInt IntKind.u64.bits v519).toNat)=v520) (e521:(decide ((b504.toNat:Int)<(128:Int)))=v521) (e523:(IntKind.i64.wrap (i+(1:Int)))=v523) (h502:v501=true) (s505:i=(n503:Int)) (s506:(l:List UInt8)[n503]?=some b504) (h508:v507=true) (h510:v509=false) (h512:v511=true) (h514:v513=false) (s518:0≤v517) (h522:v521=false) (code':Int) (i':Int) (q0:(v520)=code') (q1:(v523)=i') (R:Frm) (hR:R.pm=⟨ntOf Tryz.prog 36,[0],[]⟩):Goes (KN w0) Tryz.prog R (lp Tryz.prog 36 0) (FL [pS l,pI v1,pI v2,pI i] [] [(5000,pV (.int .u64 code))]) zC .n (FL [pS l,pI v1,pI v2,pI i'] [] [(5000,pV (.int .u64 code'))]) zC:=
 goes (x:=.n) (y:=.n) (Fb:=FL [pS l,pI v1,pI v2,pI i,pB v501,pV (.int .u8 (b504.toNat:Int)),pB v507,pB v509,pB v511,pB v513,pV (.int .u8 v515),pI v517,pB v521,pI v523] [] [(5000,pV (.int .u64 code)),(5001,pV (.int .u64 v516)),(5002,pV (.int .u64 v519)),(5003,pV (.int .u64 v520))]) (stb:=zC) (tl:=[.sl 0 (.o (.c (.p 0 0))),.sl 3 (.o (.c (.h 5003))),.sl 6 (.o (.c (.p 0 0))),.sl 7 (.o (.c (.k (.bool false)))),.sl 8 (.o (.c (.p 0 0))),.sl 9 (.o (.c (.p 0 0))),.sl 10 (.o (.c (.p 0 0))),.sl 11 (.o (.c (.h 0))),.sl 12 (.o (.c (.h 1))),.sl 13 (.o (.c (.h 2))),.sl 14 (.o (.c (.h 13))),.bx 0 62 [.h 0,.k (.bool false)]]) (C:=((1005000,.bin .lss 3 (LF (.h 3)) (LF (.h 2)) (LF (.h 4))) ::
  (10004,.fb 4 true) ::
  (1005008,.op (.ix 9) [LF (.h 0),LF (.h 3)] [] (LF (.h 5))) ::
  (1005011,.bin .eql 3 (LF (.h 3)) (LF (.k (.int .i64 9))) (LF (.h 6))) ::
  (10006,.fb 6 true) ::
  (1005014,.bin .gtr 5 (LF (.h 5)) (LF (.k (.int .u8 1))) (LF (.h 7))) ::
  (10007,.fb 7 false) ::
  (1005018,.bin .gtr 3 (LF (.h 3)) (LF (.k (.int .i64 0))) (LF (.h 8))) ::
  (10008,.fb 8 true) ::
  (1005021,.bin .eql 5 (LF (.h 5)) (LF (.k (.int .u8 0))) (LF (.h 9))) ::
  (10009,.fb 9 false) ::
  (1005026,.bin .and 5 (LF (.h 5)) (LF (.k (.int .u8 127))) (LF (.h 10))) ::
  (1005027,.op (.cv 5 72) [LF (.h 10)] [] (LF (.h 5001))) ::
  (1005029,.bin .mul 3 (LF (.k (.int .i64 7))) (LF (.h 3)) (LF (.h 11))) ::
  (1005030,.bin .shl 72 (LF (.h 5001)) (LF (.h 11)) (LF (.h 5002))) ::
  (1005031,.bin .or 72 (LF (.h 5000)) (LF (.h 5002)) (LF (.h 5003))) ::
  (1005034,.bin .lss 5 (LF (.h 5)) (LF (.k (.int .u8 128))) (LF (.h 12))) ::
  (10012,.fb 12 false) ::
  (1005035,.bin .add 3 (LF (.h 3)) (LF (.k (.int .i64 1))) (LF (.h 13))) ::
  []:List (Nat×Ent))) (H:=.no) 5000 (zipA.imp ⟨z_c (fun _ _ _ h=>h),z_c (fun _ _ _ h=>h),z_c (fun _ _ _ h=>h),z_c (fun _ _ _ h=>h),z_c (fun _ _ _ h=>h),z_c (fun _ _ _ h=>h),z_c (fun _ _ _ h=>h),z_c (fun _ _ _ h=>h),z_c (fun _ _ _ h=>h),z_c (fun _ _ _ h=>h),z_c (fun _ _ _ h=>h),z_b ⟨fun _ _ _ h=>h,fun _ _ _ h=>h,trivial⟩,trivial⟩) (zf ⟨zb rfl,zb rfl,zb rfl,zb rfl,zb rfl,zb rfl,zb rfl,zb rfl,zb rfl,zb rfl,zb rfl,zb rfl,zb rfl,zb rfl,trivial⟩ trivial ⟨⟨rfl,zh⟩,⟨rfl,zh⟩,⟨rfl,zh⟩,⟨rfl,zh⟩,trivial⟩) ⟨e_bin (za rfl) (za rfl) (za rfl) (r_cmp (congrArg some e501)),
  e_fb (show pV (.bool v501)=_ by rw [h502]),
  e_op2 (za rfl) (za rfl) (za rfl) (r_ix (by kernel_rfl) s505 s506),
  e_bin (za rfl) zd (za rfl) (r_cmp (congrArg some e507)),
  e_fb (show pV (.bool v507)=_ by rw [h508]),
  e_bin (za rfl) zd (za rfl) (r_cmp (congrArg some e509)),
  e_fb (show pV (.bool v509)=_ by rw [h510]),
  e_bin (za rfl) zd (za rfl) (r_cmp (congrArg some e511)),
  e_fb (show pV (.bool v511)=_ by rw [h512]),
  e_bin (za rfl) zd (za rfl) (r_cmp (congrArg some e513)),
  e_fb (show pV (.bool v513)=_ by rw [h514]),
  e_bin (za rfl) zd (za rfl) (zL (congrArg some e515)),
  e_op1 (za rfl) (za rfl) (fun W=>by rw [← e516];exact r_cvi (by kernel_rfl) (by kernel_rfl) W),
  e_bin zd (za rfl) (za rfl) (r_ar (congrArg some e517)),
  e_bin (za rfl) (za rfl) (za rfl) (fun W X Y=>by rw [← e519];exact r_shl s518 W X Y),
  e_bin (za rfl) (za rfl) (za rfl) (zL (congrArg some e520)),
  e_bin (za rfl) zd (za rfl) (r_cmp (congrArg some e521)),
  e_fb (show pV (.bool v521)=_ by rw [h522]),
  e_bin (za rfl) zd (za rfl) (r_ar (congrArg some e523)),
  trivial⟩ mixed hR trivial (fun _ _ _ hs=>by cases hs) (by kernel_rfl:zz (KN w0) Tryz.prog _ .no ⟨ntOf Tryz.prog 36,[0],[]⟩ (lp Tryz.prog 36 0) 5000 zC .n [.sl 0 (.o (.c (.p 0 0))),.sl 3 (.o (.c (.h 5003))),.sl 6 (.o (.c (.p 0 0))),.sl 7 (.o (.c (.k (.bool false)))),.sl 8 (.o (.c (.p 0 0))),.sl 9 (.o (.c (.p 0 0))),.sl 10 (.o (.c (.p 0 0))),.sl 11 (.o (.c (.h 0))),.sl 12 (.o (.c (.h 1))),.sl 13 (.o (.c (.h 2))),.sl 14 (.o (.c (.h 13))),.bx 0 62 [.h 0,.k (.bool false)]]=true) rfl (zipA.imp ⟨z_c (fun _ _ _ h=>h),z_c (fun β v W h=>(zc rfl β v W).2 (by rw [← q0];exact h)),z_c (fun _ _ _ h=>h),z_c (fun _ _ _ h=>h),z_c (fun _ _ _ h=>h),z_c (fun _ _ _ h=>h),z_c (fun _ _ _ h=>h),z_c (fun _ _ _ h=>h),z_c (fun _ _ _ h=>h),z_c (fun _ _ _ h=>h),z_c (fun β v W h=>(zc rfl β v W).2 (by rw [← q1];exact h)),z_b ⟨fun _ _ _ h=>h,fun _ _ _ h=>h,trivial⟩,trivial⟩)
theorem zoP {w0:World} (l:(List UInt8)) (v1:Int) (v2:Int) (code:Int) (i:Int) (v501:Bool) (n503:Nat) (b504:UInt8) (v507:Bool) (v509:Bool) (v511:Bool) (v513:Int) (v514:Int) (v515:Int) (v517:Int) (v518:Int) (v519:Bool) (v521:Int) (n522:Nat) (v524:(List UInt8)) (v526:Int) (v527:Int) (v528:Int) (v529:Int) (v530:Int) (v531:Int) (e501:(decide (i<v2))=v501) (e507:((i == (9:Int)))=v507) (e509:(decide ((b504.toNat:Int) > (1:Int)))=v509) (e511:(decide (i > (0:Int)))=v511) (e513:(IntKind.u8.wrap (BitVec.ofInt IntKind.u8.bits (b504.toNat:Int) &&& BitVec.ofInt IntKind.u8.bits (127:Int)).toNat)=v513) (e514:(IntKind.u64.wrap v513)=v514) (e515:(IntKind.i64.wrap ((7:Int)*i))=v515) (e517:(IntKind.u64.wrap (v514*2 ^ min (v515:Int).toNat IntKind.u64.bits))=v517) (e518:(IntKind.u64.wrap (BitVec.ofInt IntKind.u64.bits code ||| BitVec.ofInt IntKind.u64.bits v517).toNat)=v518) (e519:(decide ((b504.toNat:Int)<(128:Int)))=v519) (e521:(IntKind.i64.wrap (i+(1:Int)))=v521) (e524:((l:List UInt8).drop n522)=v524) (e526:((v518:Int).fdiv (2 ^ min ((1:Int):Int).toNat IntKind.u64.bits))=v526) (e527:(IntKind.i64.wrap v526)=v527) (e528:(IntKind.u64.wrap (BitVec.ofInt IntKind.u64.bits v518 &&& BitVec.ofInt IntKind.u64.bits (1:Int)).toNat)=v528) (e529:(IntKind.i64.wrap v528)=v529) (e530:(IntKind.i64.wrap (0 - v529))=v530) (e531:(IntKind.i64.wrap (BitVec.ofInt IntKind.i64.bits v527 ^^^ BitVec.ofInt IntKind.i64.bits v530).toNat)=v531) (h502:v501=true) (s505:i=(n503:Int)) (s506:(l:List UInt8)[n503]?=some b504) (h508:v507=true) (h510:v509=false) (h512:v511=false) (s516:0≤v515) (h520:v519=true) (s523:v521=(n522:Int)) (s525:n522≤(l:List UInt8).length) (o:Int) (l2:(List UInt8)) (F:Fact) (u0:F.c 0=pS l) (u1:F.c 1=pI v1) (u2:F.c 2=pI v2) (u3:F.c 3=pI o) (u4:F.c 4=pS l2) (q0:(v531)=o) (q1:(v524)=l2) (R:Frm) (hR:R.pm=⟨ntOf Tryz.prog 36,[0],[]⟩):Goes (KN w0) Tryz.prog R (lp Tryz.prog 36 0) (FL [pS l,pI v1,pI v2,pI i] [] [(5000,pV (.int .u64 code))]) zC .r F wrA_S.out:=
 goes (x:=.r) (y:=.r) (Fb:=FL [pS l,pI v1,pI v2,pI i,pB v501,pV (.int .u8 (b504.toNat:Int)),pB v507,pB v509,pB v511,pV (.int .u8 v513),pI v515,pB v519,pI v521,pS v524,pI v527,pI v529,pI v530,pI v531] [] [(5000,pV (.int .u64 code)),(5001,pV (.int .u64 v514)),(5002,pV (.int .u64 v517)),(5003,pV (.int .u64 v518)),(5004,pV (.int .u64 v526)),(5005,pV (.int .u64 v528))]) (stb:=zC) (tl:=[.sl 0 (.o (.c (.p 0 0))),.sl 2 (.o (.c (.h 17))),.sl 6 (.o (.c (.p 0 0))),.sl 7 (.o (.c (.k (.bool false)))),.sl 8 (.o (.c (.p 0 0))),.sl 9 (.o (.c (.p 0 0))),.sl 10 (.o (.c (.p 0 0))),.sl 11 (.o (.c (.h 0))),.sl 12 (.o (.c (.h 1))),.sl 13 (.o (.c (.h 2))),.bx 0 62 [.h 13,.k (.bool false)]]) (C:=((1005000,.bin .lss 3 (LF (.h 3)) (LF (.h 2)) (LF (.h 4))) ::
  (10004,.fb 4 true) ::
  (1005008,.op (.ix 9) [LF (.h 0),LF (.h 3)] [] (LF (.h 5))) ::
  (1005011,.bin .eql 3 (LF (.h 3)) (LF (.k (.int .i64 9))) (LF (.h 6))) ::
  (10006,.fb 6 true) ::
  (1005014,.bin .gtr 5 (LF (.h 5)) (LF (.k (.int .u8 1))) (LF (.h 7))) ::
  (10007,.fb 7 false) ::
  (1005018,.bin .gtr 3 (LF (.h 3)) (LF (.k (.int .i64 0))) (LF (.h 8))) ::
  (10008,.fb 8 false) ::
  (1005026,.bin .and 5 (LF (.h 5)) (LF (.k (.int .u8 127))) (LF (.h 9))) ::
  (1005027,.op (.cv 5 72) [LF (.h 9)] [] (LF (.h 5001))) ::
  (1005029,.bin .mul 3 (LF (.k (.int .i64 7))) (LF (.h 3)) (LF (.h 10))) ::
  (1005030,.bin .shl 72 (LF (.h 5001)) (LF (.h 10)) (LF (.h 5002))) ::
  (1005031,.bin .or 72 (LF (.h 5000)) (LF (.h 5002)) (LF (.h 5003))) ::
  (1005034,.bin .lss 5 (LF (.h 5)) (LF (.k (.int .u8 128))) (LF (.h 11))) ::
  (10011,.fb 11 true) ::
  (1005041,.bin .add 3 (LF (.h 3)) (LF (.k (.int .i64 1))) (LF (.h 12))) ::
  (1005042,.op (.sc 9 true false false) [LF (.h 0),LF (.h 12)] [] (LF (.h 13))) ::
  (1005047,.bin .shr 72 (LF (.h 5003)) (LF (.k (.int .u64 1))) (LF (.h 5004))) ::
  (1005048,.op (.cv 72 3) [LF (.h 5004)] [] (LF (.h 14))) ::
  (1005050,.bin .and 72 (LF (.h 5003)) (LF (.k (.int .u64 1))) (LF (.h 5005))) ::
  (1005051,.op (.cv 72 3) [LF (.h 5005)] [] (LF (.h 15))) ::
  (1005052,.un .neg (LF (.h 15)) (LF (.h 16))) ::
  (1005053,.bin .xor 3 (LF (.h 14)) (LF (.h 16)) (LF (.h 17))) ::
  []:List (Nat×Ent))) (H:=.no) 5000 (zipA.imp ⟨z_c (fun _ _ _ h=>h),z_c (fun _ _ _ h=>h),z_c (fun _ _ _ h=>h),z_c (fun _ _ _ h=>h),z_c (fun _ _ _ h=>h),z_c (fun _ _ _ h=>h),z_c (fun _ _ _ h=>h),z_c (fun _ _ _ h=>h),z_c (fun _ _ _ h=>h),z_c (fun _ _ _ h=>h),z_c (fun _ _ _ h=>h),z_b ⟨fun _ _ _ h=>h,fun _ _ _ h=>h,trivial⟩,trivial⟩) (zf ⟨zb rfl,zb rfl,zb rfl,zb rfl,zb rfl,zb rfl,zb rfl,zb rfl,zb rfl,zb rfl,zb rfl,zb rfl,zb rfl,zb rfl,zb rfl,zb rfl,zb rfl,zb rfl,trivial⟩ trivial ⟨⟨rfl,zh⟩,⟨rfl,zh⟩,⟨rfl,zh⟩,⟨rfl,zh⟩,⟨rfl,zh⟩,⟨rfl,zh⟩,trivial⟩) ⟨e_bin (za rfl) (za rfl) (za rfl) (r_cmp (congrArg some e501)),
  e_fb (show pV (.bool v501)=_ by rw [h502]),
  e_op2 (za rfl) (za rfl) (za rfl) (r_ix (by kernel_rfl) s505 s506),
  e_bin (za rfl) zd (za rfl) (r_cmp (congrArg some e507)),
  e_fb (show pV (.bool v507)=_ by rw [h508]),
  e_bin (za rfl) zd (za rfl) (r_cmp (congrArg some e509)),
  e_fb (show pV (.bool v509)=_ by rw [h510]),
  e_bin (za rfl) zd (za rfl) (r_cmp (congrArg some e511)),
  e_fb (show pV (.bool v511)=_ by rw [h512]),
  e_bin (za rfl) zd (za rfl) (zL (congrArg some e513)),
  e_op1 (za rfl) (za rfl) (fun W=>by rw [← e514];exact r_cvi (by kernel_rfl) (by kernel_rfl) W),
  e_bin zd (za rfl) (za rfl) (r_ar (congrArg some e515)),
  e_bin (za rfl) (za rfl) (za rfl) (fun W X Y=>by rw [← e517];exact r_shl s516 W X Y),
  e_bin (za rfl) (za rfl) (za rfl) (zL (congrArg some e518)),
  e_bin (za rfl) zd (za rfl) (r_cmp (congrArg some e519)),
  e_fb (show pV (.bool v519)=_ by rw [h520]),
  e_bin (za rfl) zd (za rfl) (r_ar (congrArg some e521)),
  e_op2 (za rfl) (za rfl) (za rfl) (fun W=>by rw [← e524];exact ze1 (by kernel_rfl) s523 s525 W),
  e_bin (za rfl) zd (za rfl) (fun W X Y=>by rw [← e526];exact r_shr (by decide) W X Y),
  e_op1 (za rfl) (za rfl) (fun W=>by rw [← e527];exact r_cvi (by kernel_rfl) (by kernel_rfl) W),
  e_bin (za rfl) zd (za rfl) (zL (congrArg some e528)),
  e_op1 (za rfl) (za rfl) (fun W=>by rw [← e529];exact r_cvi (by kernel_rfl) (by kernel_rfl) W),
  e_un (za rfl) (za rfl) (fun W=>by rw [← e530];exact r_neg W),
  e_bin (za rfl) (za rfl) (za rfl) (zL (congrArg some e531)),
  trivial⟩ mixed hR trivial (fun _ _ _ hs=>by cases hs) (by kernel_rfl:zz (KN w0) Tryz.prog _ .no ⟨ntOf Tryz.prog 36,[0],[]⟩ (lp Tryz.prog 36 0) 5000 zC .r [.sl 0 (.o (.c (.p 0 0))),.sl 2 (.o (.c (.h 17))),.sl 6 (.o (.c (.p 0 0))),.sl 7 (.o (.c (.k (.bool false)))),.sl 8 (.o (.c (.p 0 0))),.sl 9 (.o (.c (.p 0 0))),.sl 10 (.o (.c (.p 0 0))),.sl 11 (.o (.c (.h 0))),.sl 12 (.o (.c (.h 1))),.sl 13 (.o (.c (.h 2))),.bx 0 62 [.h 13,.k (.bool false)]]=true) rfl (zipA.imp ⟨z_c (fun _ _ _ h=>h),z_c (fun β v W h=>(zc u3 β v W).2 (by rw [← q0];exact h)),z_c (fun _ _ _ h=>h),z_c (fun _ _ _ h=>h),z_c (fun _ _ _ h=>h),z_c (fun _ _ _ h=>h),z_c (fun _ _ _ h=>h),z_c (fun β v W h=>(zc u0 β v W).2 h),z_c (fun β v W h=>(zc u1 β v W).2 h),z_c (fun β v W h=>(zc u2 β v W).2 h),z_b ⟨fun β v W h=>(zc u4 β v W).2 (by rw [← q1];exact h),fun _ _ _ h=>h,trivial⟩,trivial⟩)
theorem zoQ {w0:World} (l:(List UInt8)) (v1:Int) (v2:Int) (code:Int) (i:Int) (v501:Bool) (n503:Nat) (b504:UInt8) (v507:Bool) (v509:Bool) (v511:Bool) (v513:Int) (v514:Int) (v515:Int) (v517:Int) (v518:Int) (v519:Bool) (v521:Int) (e501:(decide (i<v2))=v501) (e507:((i == (9:Int)))=v507) (e509:(decide ((b504.toNat:Int) > (1:Int)))=v509) (e511:(decide (i > (0:Int)))=v511) (e513:(IntKind.u8.wrap (BitVec.ofInt IntKind.u8.bits (b504.toNat:Int) &&& BitVec.ofInt IntKind.u8.bits (127:Int)).toNat)=v513) (e514:(IntKind.u64.wrap v513)=v514) (e515:(IntKind.i64.wrap ((7:Int)*i))=v515) (e517:(IntKind.u64.wrap (v514*2 ^ min (v515:Int).toNat IntKind.u64.bits))=v517) (e518:(IntKind.u64.wrap (BitVec.ofInt IntKind.u64.bits code ||| BitVec.ofInt IntKind.u64.bits v517).toNat)=v518) (e519:(decide ((b504.toNat:Int)<(128:Int)))=v519) (e521:(IntKind.i64.wrap (i+(1:Int)))=v521) (h502:v501=true) (s505:i=(n503:Int)) (s506:(l:List UInt8)[n503]?=some b504) (h508:v507=true) (h510:v509=false) (h512:v511=false) (s516:0≤v515) (h520:v519=false) (code':Int) (i':Int) (q0:(v518)=code') (q1:(v521)=i') (R:Frm) (hR:R.pm=⟨ntOf Tryz.prog 36,[0],[]⟩):Goes (KN w0) Tryz.prog R (lp Tryz.prog 36 0) (FL [pS l,pI v1,pI v2,pI i] [] [(5000,pV (.int .u64 code))]) zC .n (FL [pS l,pI v1,pI v2,pI i'] [] [(5000,pV (.int .u64 code'))]) zC:=
 goes (x:=.n) (y:=.n) (Fb:=FL [pS l,pI v1,pI v2,pI i,pB v501,pV (.int .u8 (b504.toNat:Int)),pB v507,pB v509,pB v511,pV (.int .u8 v513),pI v515,pB v519,pI v521] [] [(5000,pV (.int .u64 code)),(5001,pV (.int .u64 v514)),(5002,pV (.int .u64 v517)),(5003,pV (.int .u64 v518))]) (stb:=zC) (tl:=[.sl 0 (.o (.c (.p 0 0))),.sl 3 (.o (.c (.h 5003))),.sl 6 (.o (.c (.p 0 0))),.sl 7 (.o (.c (.k (.bool false)))),.sl 8 (.o (.c (.p 0 0))),.sl 9 (.o (.c (.p 0 0))),.sl 10 (.o (.c (.p 0 0))),.sl 11 (.o (.c (.h 0))),.sl 12 (.o (.c (.h 1))),.sl 13 (.o (.c (.h 2))),.sl 14 (.o (.c (.h 12))),.bx 0 62 [.h 0,.k (.bool false)]]) (C:=((1005000,.bin .lss 3 (LF (.h 3)) (LF (.h 2)) (LF (.h 4))) ::
  (10004,.fb 4 true) ::
  (1005008,.op (.ix 9) [LF (.h 0),LF (.h 3)] [] (LF (.h 5))) ::
  (1005011,.bin .eql 3 (LF (.h 3)) (LF (.k (.int .i64 9))) (LF (.h 6))) ::
  (10006,.fb 6 true) ::
  (1005014,.bin .gtr 5 (LF (.h 5)) (LF (.k (.int .u8 1))) (LF (.h 7))) ::
  (10007,.fb 7 false) ::
  (1005018,.bin .gtr 3 (LF (.h 3)) (LF (.k (.int .i64 0))) (LF (.h 8))) ::
  (10008,.fb 8 false) ::
  (1005026,.bin .and 5 (LF (.h 5)) (LF (.k (.int .u8 127))) (LF (.h 9))) ::
  (1005027,.op (.cv 5 72) [LF (.h 9)] [] (LF (.h 5001))) ::
  (1005029,.bin .mul 3 (LF (.k (.int .i64 7))) (LF (.h 3)) (LF (.h 10))) ::
  (1005030,.bin .shl 72 (LF (.h 5001)) (LF (.h 10)) (LF (.h 5002))) ::
  (1005031,.bin .or 72 (LF (.h 5000)) (LF (.h 5002)) (LF (.h 5003))) ::
  (1005034,.bin .lss 5 (LF (.h 5)) (LF (.k (.int .u8 128))) (LF (.h 11))) ::
  (10011,.fb 11 false) ::
  (1005035,.bin .add 3 (LF (.h 3)) (LF (.k (.int .i64 1))) (LF (.h 12))) ::
  []:List (Nat×Ent))) (H:=.no) 5000 (zipA.imp ⟨z_c (fun _ _ _ h=>h),z_c (fun _ _ _ h=>h),z_c (fun _ _ _ h=>h),z_c (fun _ _ _ h=>h),z_c (fun _ _ _ h=>h),z_c (fun _ _ _ h=>h),z_c (fun _ _ _ h=>h),z_c (fun _ _ _ h=>h),z_c (fun _ _ _ h=>h),z_c (fun _ _ _ h=>h),z_c (fun _ _ _ h=>h),z_b ⟨fun _ _ _ h=>h,fun _ _ _ h=>h,trivial⟩,trivial⟩) (zf ⟨zb rfl,zb rfl,zb rfl,zb rfl,zb rfl,zb rfl,zb rfl,zb rfl,zb rfl,zb rfl,zb rfl,zb rfl,zb rfl,trivial⟩ trivial ⟨⟨rfl,zh⟩,⟨rfl,zh⟩,⟨rfl,zh⟩,⟨rfl,zh⟩,trivial⟩) ⟨e_bin (za rfl) (za rfl) (za rfl) (r_cmp (congrArg some e501)),
  e_fb (show pV (.bool v501)=_ by rw [h502]),
  e_op2 (za rfl) (za rfl) (za rfl) (r_ix (by kernel_rfl) s505 s506),
  e_bin (za rfl) zd (za rfl) (r_cmp (congrArg some e507)),
  e_fb (show pV (.bool v507)=_ by rw [h508]),
  e_bin (za rfl) zd (za rfl) (r_cmp (congrArg some e509)),
  e_fb (show pV (.bool v509)=_ by rw [h510]),
  e_bin (za rfl) zd (za rfl) (r_cmp (congrArg some e511)),
  e_fb (show pV (.bool v511)=_ by rw [h512]),
  e_bin (za rfl) zd (za rfl) (zL (congrArg some e513)),
  e_op1 (za rfl) (za rfl) (fun W=>by rw [← e514];exact r_cvi (by kernel_rfl) (by kernel_rfl) W),
  e_bin zd (za rfl) (za rfl) (r_ar (congrArg some e515)),
  e_bin (za rfl) (za rfl) (za rfl) (fun W X Y=>by rw [← e517];exact r_shl s516 W X Y),
  e_bin (za rfl) (za rfl) (za rfl) (zL (congrArg some e518)),
  e_bin (za rfl) zd (za rfl) (r_cmp (congrArg some e519)),
  e_fb (show pV (.bool v519)=_ by rw [h520]),
  e_bin (za rfl) zd (za rfl) (r_ar (congrArg some e521)),
  trivial⟩ mixed hR trivial (fun _ _ _ hs=>by cases hs) (by kernel_rfl:zz (KN w0) Tryz.prog _ .no ⟨ntOf Tryz.prog 36,[0],[]⟩ (lp Tryz.prog 36 0) 5000 zC .n [.sl 0 (.o (.c (.p 0 0))),.sl 3 (.o (.c (.h 5003))),.sl 6 (.o (.c (.p 0 0))),.sl 7 (.o (.c (.k (.bool false)))),.sl 8 (.o (.c (.p 0 0))),.sl 9 (.o (.c (.p 0 0))),.sl 10 (.o (.c (.p 0 0))),.sl 11 (.o (.c (.h 0))),.sl 12 (.o (.c (.h 1))),.sl 13 (.o (.c (.h 2))),.sl 14 (.o (.c (.h 12))),.bx 0 62 [.h 0,.k (.bool false)]]=true) rfl (zipA.imp ⟨z_c (fun _ _ _ h=>h),z_c (fun β v W h=>(zc rfl β v W).2 (by rw [← q0];exact h)),z_c (fun _ _ _ h=>h),z_c (fun _ _ _ h=>h),z_c (fun _ _ _ h=>h),z_c (fun _ _ _ h=>h),z_c (fun _ _ _ h=>h),z_c (fun _ _ _ h=>h),z_c (fun _ _ _ h=>h),z_c (fun _ _ _ h=>h),z_c (fun β v W h=>(zc rfl β v W).2 (by rw [← q1];exact h)),z_b ⟨fun _ _ _ h=>h,fun _ _ _ h=>h,trivial⟩,trivial⟩)
theorem zoR {w0:World} (l:(List UInt8)) (v1:Int) (v2:Int) (code:Int) (i:Int) (v501:Bool) (n503:Nat) (b504:UInt8) (v507:Bool) (v509:Bool) (v511:Bool) (v513:Int) (v514:Int) (v515:Int) (v517:Int) (v518:Int) (v519:Bool) (v521:Int) (n522:Nat) (v524:(List UInt8)) (v526:Int) (v527:Int) (v528:Int) (v529:Int) (v530:Int) (v531:Int) (e501:(decide (i<v2))=v501) (e507:((i == (9:Int)))=v507) (e509:(decide (i > (0:Int)))=v509) (e511:(((b504.toNat:Int) == (0:Int)))=v511) (e513:(IntKind.u8.wrap (BitVec.ofInt IntKind.u8.bits (b504.toNat:Int) &&& BitVec.ofInt IntKind.u8.bits (127:Int)).toNat)=v513) (e514:(IntKind.u64.wrap v513)=v514) (e515:(IntKind.i64.wrap ((7:Int)*i))=v515) (e517:(IntKind.u64.wrap (v514*2 ^ min (v515:Int).toNat IntKind.u64.bits))=v517) (e518:(IntKind.u64.wrap (BitVec.ofInt IntKind.u64.bits code ||| BitVec.ofInt IntKind.u64.bits v517).toNat)=v518) (e519:(decide ((b504.toNat:Int)<(128:Int)))=v519) (e521:(IntKind.i64.wrap (i+(1:Int)))=v521) (e524:((l:List UInt8).drop n522)=v524) (e526:((v518:Int).fdiv (2 ^ min ((1:Int):Int).toNat IntKind.u64.bits))=v526) (e527:(IntKind.i64.wrap v526)=v527) (e528:(IntKind.u64.wrap (BitVec.ofInt IntKind.u64.bits v518 &&& BitVec.ofInt IntKind.u64.bits (1:Int)).toNat)=v528) (e529:(IntKind.i64.wrap v528)=v529) (e530:(IntKind.i64.wrap (0 - v529))=v530) (e531:(IntKind.i64.wrap (BitVec.ofInt IntKind.i64.bits v527 ^^^ BitVec.ofInt IntKind.i64.bits v530).toNat)=v531) (h502:v501=true) (s505:i=(n503:Int)) (s506:(l:List UInt8)[n503]?=some b504) (h508:v507=false) (h510:v509=true) (h512:v511=false) (s516:0≤v515) (h520:v519=true) (s523:v521=(n522:Int)) (s525:n522≤(l:List UInt8).length) (o:Int) (l2:(List UInt8)) (F:Fact) (u0:F.c 0=pS l) (u1:F.c 1=pI v1) (u2:F.c 2=pI v2) (u3:F.c 3=pI o) (u4:F.c 4=pS l2) (q0:(v531)=o) (q1:(v524)=l2) (R:Frm) (hR:R.pm=⟨ntOf Tryz.prog 36,[0],[]⟩):Goes (KN w0) Tryz.prog R (lp Tryz.prog 36 0) (FL [pS l,pI v1,pI v2,pI i] [] [(5000,pV (.int .u64 code))]) zC .r F wrA_S.out:=
 goes (x:=.r) (y:=.r) (Fb:=FL [pS l,pI v1,pI v2,pI i,pB v501,pV (.int .u8 (b504.toNat:Int)),pB v507,pB v509,pB v511,pV (.int .u8 v513),pI v515,pB v519,pI v521,pS v524,pI v527,pI v529,pI v530,pI v531] [] [(5000,pV (.int .u64 code)),(5001,pV (.int .u64 v514)),(5002,pV (.int .u64 v517)),(5003,pV (.int .u64 v518)),(5004,pV (.int .u64 v526)),(5005,pV (.int .u64 v528))]) (stb:=zC) (tl:=[.sl 0 (.o (.c (.p 0 0))),.sl 2 (.o (.c (.h 17))),.sl 6 (.o (.c (.p 0 0))),.sl 7 (.o (.c (.k (.bool false)))),.sl 8 (.o (.c (.p 0 0))),.sl 9 (.o (.c (.p 0 0))),.sl 10 (.o (.c (.p 0 0))),.sl 11 (.o (.c (.h 0))),.sl 12 (.o (.c (.h 1))),.sl 13 (.o (.c (.h 2))),.bx 0 62 [.h 13,.k (.bool false)]]) (C:=((1005000,.bin .lss 3 (LF (.h 3)) (LF (.h 2)) (LF (.h 4))) ::
  (10004,.fb 4 true) ::
  (1005008,.op (.ix 9) [LF (.h 0),LF (.h 3)] [] (LF (.h 5))) ::
  (1005011,.bin .eql 3 (LF (.h 3)) (LF (.k (.int .i64 9))) (LF (.h 6))) ::
  (10006,.fb 6 false) ::
  (1005018,.bin .gtr 3 (LF (.h 3)) (LF (.k (.int .i64 0))) (LF (.h 7))) ::
  (10007,.fb 7 true) ::
  (1005021,.bin .eql 5 (LF (.h 5)) (LF (.k (.int .u8 0))) (LF (.h 8))) ::
  (10008,.fb 8 false) ::
  (1005026,.bin .and 5 (LF (.h 5)) (LF (.k (.int .u8 127))) (LF (.h 9))) ::
  (1005027,.op (.cv 5 72) [LF (.h 9)] [] (LF (.h 5001))) ::
  (1005029,.bin .mul 3 (LF (.k (.int .i64 7))) (LF (.h 3)) (LF (.h 10))) ::
  (1005030,.bin .shl 72 (LF (.h 5001)) (LF (.h 10)) (LF (.h 5002))) ::
  (1005031,.bin .or 72 (LF (.h 5000)) (LF (.h 5002)) (LF (.h 5003))) ::
  (1005034,.bin .lss 5 (LF (.h 5)) (LF (.k (.int .u8 128))) (LF (.h 11))) ::
  (10011,.fb 11 true) ::
  (1005041,.bin .add 3 (LF (.h 3)) (LF (.k (.int .i64 1))) (LF (.h 12))) ::
  (1005042,.op (.sc 9 true false false) [LF (.h 0),LF (.h 12)] [] (LF (.h 13))) ::
  (1005047,.bin .shr 72 (LF (.h 5003)) (LF (.k (.int .u64 1))) (LF (.h 5004))) ::
  (1005048,.op (.cv 72 3) [LF (.h 5004)] [] (LF (.h 14))) ::
  (1005050,.bin .and 72 (LF (.h 5003)) (LF (.k (.int .u64 1))) (LF (.h 5005))) ::
  (1005051,.op (.cv 72 3) [LF (.h 5005)] [] (LF (.h 15))) ::
  (1005052,.un .neg (LF (.h 15)) (LF (.h 16))) ::
  (1005053,.bin .xor 3 (LF (.h 14)) (LF (.h 16)) (LF (.h 17))) ::
  []:List (Nat×Ent))) (H:=.no) 5000 (zipA.imp ⟨z_c (fun _ _ _ h=>h),z_c (fun _ _ _ h=>h),z_c (fun _ _ _ h=>h),z_c (fun _ _ _ h=>h),z_c (fun _ _ _ h=>h),z_c (fun _ _ _ h=>h),z_c (fun _ _ _ h=>h),z_c (fun _ _ _ h=>h),z_c (fun _ _ _ h=>h),z_c (fun _ _ _ h=>h),z_c (fun _ _ _ h=>h),z_b ⟨fun _ _ _ h=>h,fun _ _ _ h=>h,trivial⟩,trivial⟩) (zf ⟨zb rfl,zb rfl,zb rfl,zb rfl,zb rfl,zb rfl,zb rfl,zb rfl,zb rfl,zb rfl,zb rfl,zb rfl,zb rfl,zb rfl,zb rfl,zb rfl,zb rfl,zb rfl,trivial⟩ trivial ⟨⟨rfl,zh⟩,⟨rfl,zh⟩,⟨rfl,zh⟩,⟨rfl,zh⟩,⟨rfl,zh⟩,⟨rfl,zh⟩,trivial⟩) ⟨e_bin (za rfl) (za rfl) (za rfl) (r_cmp (congrArg some e501)),
  e_fb (show pV (.bool v501)=_ by rw [h502]),
  e_op2 (za rfl) (za rfl) (za rfl) (r_ix (by kernel_rfl) s505 s506),
  e_bin (za rfl) zd (za rfl) (r_cmp (congrArg some e507)),
  e_fb (show pV (.bool v507)=_ by rw [h508]),
  e_bin (za rfl) zd (za rfl) (r_cmp (congrArg some e509)),
  e_fb (show pV (.bool v509)=_ by rw [h510]),
  e_bin (za rfl) zd (za rfl) (r_cmp (congrArg some e511)),
  e_fb (show pV (.bool v511)=_ by rw [h512]),
  e_bin (za rfl) zd (za rfl) (zL (congrArg some e513)),
  e_op1 (za rfl) (za rfl) (fun W=>by rw [← e514];exact r_cvi (by kernel_rfl) (by kernel_rfl) W),
  e_bin zd (za rfl) (za rfl) (r_ar (congrArg some e515)),
  e_bin (za rfl) (za rfl) (za rfl) (fun W X Y=>by rw [← e517];exact r_shl s516 W X Y),
  e_bin (za rfl) (za rfl) (za rfl) (zL (congrArg some e518)),
  e_bin (za rfl) zd (za rfl) (r_cmp (congrArg some e519)),
  e_fb (show pV (.bool v519)=_ by rw [h520]),
  e_bin (za rfl) zd (za rfl) (r_ar (congrArg some e521)),
  e_op2 (za rfl) (za rfl) (za rfl) (fun W=>by rw [← e524];exact ze1 (by kernel_rfl) s523 s525 W),
  e_bin (za rfl) zd (za rfl) (fun W X Y=>by rw [← e526];exact r_shr (by decide) W X Y),
  e_op1 (za rfl) (za rfl) (fun W=>by rw [← e527];exact r_cvi (by kernel_rfl) (by kernel_rfl) W),
  e_bin (za rfl) zd (za rfl) (zL (congrArg some e528)),
  e_op1 (za rfl) (za rfl) (fun W=>by rw [← e529];exact r_cvi (by kernel_rfl) (by kernel_rfl) W),
  e_un (za rfl) (za rfl) (fun W=>by rw [← e530];exact r_neg W),
  e_bin (za rfl) (za rfl) (za rfl) (zL (congrArg some e531)),
  trivial⟩ mixed hR trivial (fun _ _ _ hs=>by cases hs) (by kernel_rfl:zz (KN w0) Tryz.prog _ .no ⟨ntOf Tryz.prog 36,[0],[]⟩ (lp Tryz.prog 36 0) 5000 zC .r [.sl 0 (.o (.c (.p 0 0))),.sl 2 (.o (.c (.h 17))),.sl 6 (.o (.c (.p 0 0))),.sl 7 (.o (.c (.k (.bool false)))),.sl 8 (.o (.c (.p 0 0))),.sl 9 (.o (.c (.p 0 0))),.sl 10 (.o (.c (.p 0 0))),.sl 11 (.o (.c (.h 0))),.sl 12 (.o (.c (.h 1))),.sl 13 (.o (.c (.h 2))),.bx 0 62 [.h 13,.k (.bool false)]]=true) rfl (zipA.imp ⟨z_c (fun _ _ _ h=>h),z_c (fun β v W h=>(zc u3 β v W).2 (by rw [← q0];exact h)),z_c (fun _ _ _ h=>h),z_c (fun _ _ _ h=>h),z_c (fun _ _ _ h=>h),z_c (fun _ _ _ h=>h),z_c (fun _ _ _ h=>h),z_c (fun β v W h=>(zc u0 β v W).2 h),z_c (fun β v W h=>(zc u1 β v W).2 h),z_c (fun β v W h=>(zc u2 β v W).2 h),z_b ⟨fun β v W h=>(zc u4 β v W).2 (by rw [← q1];exact h),fun _ _ _ h=>h,trivial⟩,trivial⟩)
theorem zoS {w0:World} (l:(List UInt8)) (v1:Int) (v2:Int) (code:Int) (i:Int) (v501:Bool) (n503:Nat) (b504:UInt8) (v507:Bool) (v509:Bool) (v511:Bool) (v513:Int) (v514:Int) (v515:Int) (v517:Int) (v518:Int) (v519:Bool) (v521:Int) (e501:(decide (i<v2))=v501) (e507:((i == (9:Int)))=v507) (e509:(decide (i > (0:Int)))=v509) (e511:(((b504.toNat:Int) == (0:Int)))=v511) (e513:(IntKind.u8.wrap (BitVec.ofInt IntKind.u8.bits (b504.toNat:Int) &&& BitVec.ofInt IntKind.u8.bits (127:Int)).toNat)=v513) (e514:(IntKind.u64.wrap v513)=v514) (e515:(IntKind.i64.wrap ((7:Int)*i))=v515) (e517:(IntKind.u64.wrap (v514*2 ^ min (v515:Int).toNat IntKind.u64.bits))=v517) (e518:(IntKind.u64.wrap (BitVec.ofInt IntKind.u64.bits code ||| BitVec.ofInt IntKind.u64.bits v517).toNat)=v518) (e519:(decide ((b504.toNat:Int)<(128:Int)))=v519) (e521:(IntKind.i64.wrap (i+(1:Int)))=v521) (h502:v501=true) (s505:i=(n503:Int)) (s506:(l:List UInt8)[n503]?=some b504) (h508:v507=false) (h510:v509=true) (h512:v511=false) (s516:0≤v515) (h520:v519=false) (code':Int) (i':Int) (q0:(v518)=code') (q1:(v521)=i') (R:Frm) (hR:R.pm=⟨ntOf Tryz.prog 36,[0],[]⟩):Goes (KN w0) Tryz.prog R (lp Tryz.prog 36 0) (FL [pS l,pI v1,pI v2,pI i] [] [(5000,pV (.int .u64 code))]) zC .n (FL [pS l,pI v1,pI v2,pI i'] [] [(5000,pV (.int .u64 code'))]) zC:=
 goes (x:=.n) (y:=.n) (Fb:=FL [pS l,pI v1,pI v2,pI i,pB v501,pV (.int .u8 (b504.toNat:Int)),pB v507,pB v509,pB v511,pV (.int .u8 v513),pI v515,pB v519,pI v521] [] [(5000,pV (.int .u64 code)),(5001,pV (.int .u64 v514)),(5002,pV (.int .u64 v517)),(5003,pV (.int .u64 v518))]) (stb:=zC) (tl:=[.sl 0 (.o (.c (.p 0 0))),.sl 3 (.o (.c (.h 5003))),.sl 6 (.o (.c (.p 0 0))),.sl 7 (.o (.c (.k (.bool false)))),.sl 8 (.o (.c (.p 0 0))),.sl 9 (.o (.c (.p 0 0))),.sl 10 (.o (.c (.p 0 0))),.sl 11 (.o (.c (.h 0))),.sl 12 (.o (.c (.h 1))),.sl 13 (.o (.c (.h 2))),.sl 14 (.o (.c (.h 12))),.bx 0 62 [.h 0,.k (.bool false)]]) (C:=((1005000,.bin .lss 3 (LF (.h 3)) (LF (.h 2)) (LF (.h 4))) ::
  (10004,.fb 4 true) ::
  (1005008,.op (.ix 9) [LF (.h 0),LF (.h 3)] [] (LF (.h 5))) ::
  (1005011,.bin .eql 3 (LF (.h 3)) (LF (.k (.int .i64 9))) (LF (.h 6))) ::
  (10006,.fb 6 false) ::
  (1005018,.bin .gtr 3 (LF (.h 3)) (LF (.k (.int .i64 0))) (LF (.h 7))) ::
  (10007,.fb 7 true) ::
  (1005021,.bin .eql 5 (LF (.h 5)) (LF (.k (.int .u8 0))) (LF (.h 8))) ::
  (10008,.fb 8 false) ::
  (1005026,.bin .and 5 (LF (.h 5)) (LF (.k (.int .u8 127))) (LF (.h 9))) ::
  (1005027,.op (.cv 5 72) [LF (.h 9)] [] (LF (.h 5001))) ::
  (1005029,.bin .mul 3 (LF (.k (.int .i64 7))) (LF (.h 3)) (LF (.h 10))) ::
  (1005030,.bin .shl 72 (LF (.h 5001)) (LF (.h 10)) (LF (.h 5002))) ::
  (1005031,.bin .or 72 (LF (.h 5000)) (LF (.h 5002)) (LF (.h 5003))) ::
  (1005034,.bin .lss 5 (LF (.h 5)) (LF (.k (.int .u8 128))) (LF (.h 11))) ::
  (10011,.fb 11 false) ::
  (1005035,.bin .add 3 (LF (.h 3)) (LF (.k (.int .i64 1))) (LF (.h 12))) ::
  []:List (Nat×Ent))) (H:=.no) 5000 (zipA.imp ⟨z_c (fun _ _ _ h=>h),z_c (fun _ _ _ h=>h),z_c (fun _ _ _ h=>h),z_c (fun _ _ _ h=>h),z_c (fun _ _ _ h=>h),z_c (fun _ _ _ h=>h),z_c (fun _ _ _ h=>h),z_c (fun _ _ _ h=>h),z_c (fun _ _ _ h=>h),z_c (fun _ _ _ h=>h),z_c (fun _ _ _ h=>h),z_b ⟨fun _ _ _ h=>h,fun _ _ _ h=>h,trivial⟩,trivial⟩) (zf ⟨zb rfl,zb rfl,zb rfl,zb rfl,zb rfl,zb rfl,zb rfl,zb rfl,zb rfl,zb rfl,zb rfl,zb rfl,zb rfl,trivial⟩ trivial ⟨⟨rfl,zh⟩,⟨rfl,zh⟩,⟨rfl,zh⟩,⟨rfl,zh⟩,trivial⟩) ⟨e_bin (za rfl) (za rfl) (za rfl) (r_cmp (congrArg some e501)),
  e_fb (show pV (.bool v501)=_ by rw [h502]),
  e_op2 (za rfl) (za rfl) (za rfl) (r_ix (by kernel_rfl) s505 s506),
  e_bin (za rfl) zd (za rfl) (r_cmp (congrArg some e507)),
  e_fb (show pV (.bool v507)=_ by rw [h508]),
  e_bin (za rfl) zd (za rfl) (r_cmp (congrArg some e509)),
  e_fb (show pV (.bool v509)=_ by rw [h510]),
  e_bin (za rfl) zd (za rfl) (r_cmp (congrArg some e511)),
  e_fb (show pV (.bool v511)=_ by rw [h512]),
  e_bin (za rfl) zd (za rfl) (zL (congrArg some e513)),
  e_op1 (za rfl) (za rfl) (fun W=>by rw [← e514];exact r_cvi (by kernel_rfl) (by kernel_rfl) W),
  e_bin zd (za rfl) (za rfl) (r_ar (congrArg some e515)),
  e_bin (za rfl) (za rfl) (za rfl) (fun W X Y=>by rw [← e517];exact r_shl s516 W X Y),
  e_bin (za rfl) (za rfl) (za rfl) (zL (congrArg some e518)),
  e_bin (za rfl) zd (za rfl) (r_cmp (congrArg some e519)),
  e_fb (show pV (.bool v519)=_ by rw [h520]),
  e_bin (za rfl) zd (za rfl) (r_ar (congrArg some e521)),
  trivial⟩ mixed hR trivial (fun _ _ _ hs=>by cases hs) (by kernel_rfl:zz (KN w0) Tryz.prog _ .no ⟨ntOf Tryz.prog 36,[0],[]⟩ (lp Tryz.prog 36 0) 5000 zC .n [.sl 0 (.o (.c (.p 0 0))),.sl 3 (.o (.c (.h 5003))),.sl 6 (.o (.c (.p 0 0))),.sl 7 (.o (.c (.k (.bool false)))),.sl 8 (.o (.c (.p 0 0))),.sl 9 (.o (.c (.p 0 0))),.sl 10 (.o (.c (.p 0 0))),.sl 11 (.o (.c (.h 0))),.sl 12 (.o (.c (.h 1))),.sl 13 (.o (.c (.h 2))),.sl 14 (.o (.c (.h 12))),.bx 0 62 [.h 0,.k (.bool false)]]=true) rfl (zipA.imp ⟨z_c (fun _ _ _ h=>h),z_c (fun β v W h=>(zc rfl β v W).2 (by rw [← q0];exact h)),z_c (fun _ _ _ h=>h),z_c (fun _ _ _ h=>h),z_c (fun _ _ _ h=>h),z_c (fun _ _ _ h=>h),z_c (fun _ _ _ h=>h),z_c (fun _ _ _ h=>h),z_c (fun _ _ _ h=>h),z_c (fun _ _ _ h=>h),z_c (fun β v W h=>(zc rfl β v W).2 (by rw [← q1];exact h)),z_b ⟨fun _ _ _ h=>h,fun _ _ _ h=>h,trivial⟩,trivial⟩)
theorem zoT {w0:World} (l:(List UInt8)) (v1:Int) (v2:Int) (code:Int) (i:Int) (v501:Bool) (n503:Nat) (b504:UInt8) (v507:Bool) (v509:Bool) (v511:Int) (v512:Int) (v513:Int) (v515:Int) (v516:Int) (v517:Bool) (v519:Int) (n520:Nat) (v522:(List UInt8)) (v524:Int) (v525:Int) (v526:Int) (v527:Int) (v528:Int) (v529:Int) (e501:(decide (i<v2))=v501) (e507:((i == (9:Int)))=v507) (e509:(decide (i > (0:Int)))=v509) (e511:(IntKind.u8.wrap (BitVec.ofInt IntKind.u8.bits (b504.toNat:Int) &&& BitVec.ofInt IntKind.u8.bits (127:Int)).toNat)=v511) (e512:(IntKind.u64.wrap v511)=v512) (e513:(IntKind.i64.wrap ((7:Int)*i))=v513) (e515:(IntKind.u64.wrap (v512*2 ^ min (v513:Int).toNat IntKind.u64.bits))=v515) (e516:(IntKind.u64.wrap (BitVec.ofInt IntKind.u64.bits code ||| BitVec.ofInt IntKind.u64.bits v515).toNat)=v516) (e517:(decide ((b504.toNat:Int)<(128:Int)))=v517) (e519:(IntKind.i64.wrap (i+(1:Int)))=v519) (e522:((l:List UInt8).drop n520)=v522) (e524:((v516:Int).fdiv (2 ^ min ((1:Int):Int).toNat IntKind.u64.bits))=v524) (e525:(IntKind.i64.wrap v524)=v525) (e526:(IntKind.u64.wrap (BitVec.ofInt IntKind.u64.bits v516 &&& BitVec.ofInt IntKind.u64.bits (1:Int)).toNat)=v526) (e527:(IntKind.i64.wrap v526)=v527) (e528:(IntKind.i64.wrap (0 - v527))=v528) (e529:(IntKind.i64.wrap (BitVec.ofInt IntKind.i64.bits v525 ^^^ BitVec.ofInt IntKind.i64.bits v528).toNat)=v529) (h502:v501=true) (s505:i=(n503:Int)) (s506:(l:List UInt8)[n503]?=some b504) (h508:v507=false) (h510:v509=false) (s514:0≤v513) (h518:v517=true) (s521:v519=(n520:Int)) (s523:n520≤(l:List UInt8).length) (o:Int) (l2:(List UInt8)) (F:Fact) (u0:F.c 0=pS l) (u1:F.c 1=pI v1) (u2:F.c 2=pI v2) (u3:F.c 3=pI o) (u4:F.c 4=pS l2) (q0:(v529)=o) (q1:(v522)=l2) (R:Frm) (hR:R.pm=⟨ntOf Tryz.prog 36,[0],[]⟩):Goes (KN w0) Tryz.prog R (lp Tryz.prog 36 0) (FL [pS l,pI v1,pI v2,pI i] [] [(5000,pV (.int .u64 code))]) zC .r F wrA_S.out:=
 goes (x:=.r) (y:=.r) (Fb:=FL [pS l,pI v1,pI v2,pI i,pB v501,pV (.int .u8 (b504.toNat:Int)),pB v507,pB v509,pV (.int .u8 v511),pI v513,pB v517,pI v519,pS v522,pI v525,pI v527,pI v528,pI v529] [] [(5000,pV (.int .u64 code)),(5001,pV (.int .u64 v512)),(5002,pV (.int .u64 v515)),(5003,pV (.int .u64 v516)),(5004,pV (.int .u64 v524)),(5005,pV (.int .u64 v526))]) (stb:=zC) (tl:=[.sl 0 (.o (.c (.p 0 0))),.sl 2 (.o (.c (.h 16))),.sl 6 (.o (.c (.p 0 0))),.sl 7 (.o (.c (.k (.bool false)))),.sl 8 (.o (.c (.p 0 0))),.sl 9 (.o (.c (.p 0 0))),.sl 10 (.o (.c (.p 0 0))),.sl 11 (.o (.c (.h 0))),.sl 12 (.o (.c (.h 1))),.sl 13 (.o (.c (.h 2))),.bx 0 62 [.h 12,.k (.bool false)]]) (C:=((1005000,.bin .lss 3 (LF (.h 3)) (LF (.h 2)) (LF (.h 4))) ::
  (10004,.fb 4 true) ::
  (1005008,.op (.ix 9) [LF (.h 0),LF (.h 3)] [] (LF (.h 5))) ::
  (1005011,.bin .eql 3 (LF (.h 3)) (LF (.k (.int .i64 9))) (LF (.h 6))) ::
  (10006,.fb 6 false) ::
  (1005018,.bin .gtr 3 (LF (.h 3)) (LF (.k (.int .i64 0))) (LF (.h 7))) ::
  (10007,.fb 7 false) ::
  (1005026,.bin .and 5 (LF (.h 5)) (LF (.k (.int .u8 127))) (LF (.h 8))) ::
  (1005027,.op (.cv 5 72) [LF (.h 8)] [] (LF (.h 5001))) ::
  (1005029,.bin .mul 3 (LF (.k (.int .i64 7))) (LF (.h 3)) (LF (.h 9))) ::
  (1005030,.bin .shl 72 (LF (.h 5001)) (LF (.h 9)) (LF (.h 5002))) ::
  (1005031,.bin .or 72 (LF (.h 5000)) (LF (.h 5002)) (LF (.h 5003))) ::
  (1005034,.bin .lss 5 (LF (.h 5)) (LF (.k (.int .u8 128))) (LF (.h 10))) ::
  (10010,.fb 10 true) ::
  (1005041,.bin .add 3 (LF (.h 3)) (LF (.k (.int .i64 1))) (LF (.h 11))) ::
  (1005042,.op (.sc 9 true false false) [LF (.h 0),LF (.h 11)] [] (LF (.h 12))) ::
  (1005047,.bin .shr 72 (LF (.h 5003)) (LF (.k (.int .u64 1))) (LF (.h 5004))) ::
  (1005048,.op (.cv 72 3) [LF (.h 5004)] [] (LF (.h 13))) ::
  (1005050,.bin .and 72 (LF (.h 5003)) (LF (.k (.int .u64 1))) (LF (.h 5005))) ::
  (1005051,.op (.cv 72 3) [LF (.h 5005)] [] (LF (.h 14))) ::
  (1005052,.un .neg (LF (.h 14)) (LF (.h 15))) ::
  (1005053,.bin .xor 3 (LF (.h 13)) (LF (.h 15)) (LF (.h 16))) ::
  []:List (Nat×Ent))) (H:=.no) 5000 (zipA.imp ⟨z_c (fun _ _ _ h=>h),z_c (fun _ _ _ h=>h),z_c (fun _ _ _ h=>h),z_c (fun _ _ _ h=>h),z_c (fun _ _ _ h=>h),z_c (fun _ _ _ h=>h),z_c (fun _ _ _ h=>h),z_c (fun _ _ _ h=>h),z_c (fun _ _ _ h=>h),z_c (fun _ _ _ h=>h),z_c (fun _ _ _ h=>h),z_b ⟨fun _ _ _ h=>h,fun _ _ _ h=>h,trivial⟩,trivial⟩) (zf ⟨zb rfl,zb rfl,zb rfl,zb rfl,zb rfl,zb rfl,zb rfl,zb rfl,zb rfl,zb rfl,zb rfl,zb rfl,zb rfl,zb rfl,zb rfl,zb rfl,zb rfl,trivial⟩ trivial ⟨⟨rfl,zh⟩,⟨rfl,zh⟩,⟨rfl,zh⟩,⟨rfl,zh⟩,⟨rfl,zh⟩,⟨rfl,zh⟩,trivial⟩) ⟨e_bin (za rfl) (za rfl) (za rfl) (r_cmp (congrArg some e501)),
  e_fb (show pV (.bool v501)=_ by rw [h502]),
  e_op2 (za rfl) (za rfl) (za rfl) (r_ix (by kernel_rfl) s505 s506),
  e_bin (za rfl) zd (za rfl) (r_cmp (congrArg some e507)),
  e_fb (show pV (.bool v507)=_ by rw [h508]),
  e_bin (za rfl) zd (za rfl) (r_cmp (congrArg some e509)),
  e_fb (show pV (.bool v509)=_ by rw [h510]),
  e_bin (za rfl) zd (za rfl) (zL (congrArg some e511)),
  e_op1 (za rfl) (za rfl) (fun W=>by rw [← e512];exact r_cvi (by kernel_rfl) (by kernel_rfl) W),
  e_bin zd (za rfl) (za rfl) (r_ar (congrArg some e513)),
  e_bin (za rfl) (za rfl) (za rfl) (fun W X Y=>by rw [← e515];exact r_shl s514 W X Y),
  e_bin (za rfl) (za rfl) (za rfl) (zL (congrArg some e516)),
  e_bin (za rfl) zd (za rfl) (r_cmp (congrArg some e517)),
  e_fb (show pV (.bool v517)=_ by rw [h518]),
  e_bin (za rfl) zd (za rfl) (r_ar (congrArg some e519)),
  e_op2 (za rfl) (za rfl) (za rfl) (fun W=>by rw [← e522];exact ze1 (by kernel_rfl) s521 s523 W),
  e_bin (za rfl) zd (za rfl) (fun W X Y=>by rw [← e524];exact r_shr (by decide) W X Y),
  e_op1 (za rfl) (za rfl) (fun W=>by rw [← e525];exact r_cvi (by kernel_rfl) (by kernel_rfl) W),
  e_bin (za rfl) zd (za rfl) (zL (congrArg some e526)),
  e_op1 (za rfl) (za rfl) (fun W=>by rw [← e527];exact r_cvi (by kernel_rfl) (by kernel_rfl) W),
  e_un (za rfl) (za rfl) (fun W=>by rw [← e528];exact r_neg W),
  e_bin (za rfl) (za rfl) (za rfl) (zL (congrArg some e529)),
  trivial⟩ mixed hR trivial (fun _ _ _ hs=>by cases hs) (by kernel_rfl:zz (KN w0) Tryz.prog _ .no ⟨ntOf Tryz.prog 36,[0],[]⟩ (lp Tryz.prog 36 0) 5000 zC .r [.sl 0 (.o (.c (.p 0 0))),.sl 2 (.o (.c (.h 16))),.sl 6 (.o (.c (.p 0 0))),.sl 7 (.o (.c (.k (.bool false)))),.sl 8 (.o (.c (.p 0 0))),.sl 9 (.o (.c (.p 0 0))),.sl 10 (.o (.c (.p 0 0))),.sl 11 (.o (.c (.h 0))),.sl 12 (.o (.c (.h 1))),.sl 13 (.o (.c (.h 2))),.bx 0 62 [.h 12,.k (.bool false)]]=true) rfl (zipA.imp ⟨z_c (fun _ _ _ h=>h),z_c (fun β v W h=>(zc u3 β v W).2 (by rw [← q0];exact h)),z_c (fun _ _ _ h=>h),z_c (fun _ _ _ h=>h),z_c (fun _ _ _ h=>h),z_c (fun _ _ _ h=>h),z_c (fun _ _ _ h=>h),z_c (fun β v W h=>(zc u0 β v W).2 h),z_c (fun β v W h=>(zc u1 β v W).2 h),z_c (fun β v W h=>(zc u2 β v W).2 h),z_b ⟨fun β v W h=>(zc u4 β v W).2 (by rw [← q1];exact h),fun _ _ _ h=>h,trivial⟩,trivial⟩)
theorem znW {w0:World} (l:(List UInt8)) (v1:Int) (v2:Int) (code:Int) (i:Int) (v501:Bool) (n503:Nat) (b504:UInt8) (v507:Bool) (v509:Bool) (v511:Int) (v512:Int) (v513:Int) (v515:Int) (v516:Int) (v517:Bool) (v519:Int) (e501:(decide (i<v2))=v501) (e507:((i == (9:Int)))=v507) (e509:(decide (i > (0:Int)))=v509) (e511:(IntKind.u8.wrap (BitVec.ofInt IntKind.u8.bits (b504.toNat:Int) &&& BitVec.ofInt IntKind.u8.bits (127:Int)).toNat)=v511) (e512:(IntKind.u64.wrap v511)=v512) (e513:(IntKind.i64.wrap ((7:Int)*i))=v513) (e515:(IntKind.u64.wrap (v512*2 ^ min (v513:Int).toNat IntKind.u64.bits))=v515) (e516:(IntKind.u64.wrap (BitVec.ofInt IntKind.u64.bits code ||| BitVec.ofInt IntKind.u64.bits v515).toNat)=v516) (e517:(decide ((b504.toNat:Int)<(128:Int)))=v517) (e519:(IntKind.i64.wrap (i+(1:Int)))=v519) (h502:v501=true) (s505:i=(n503:Int)) (s506:(l:List UInt8)[n503]?=some b504) (h508:v507=false) (h510:v509=false) (s514:0≤v513) (h518:v517=false) (code':Int) (i':Int) (q0:(v516)=code') (q1:(v519)=i') (R:Frm) (hR:R.pm=⟨ntOf Tryz.prog 36,[0],[]⟩):Goes (KN w0) Tryz.prog R (lp Tryz.prog 36 0) (FL [pS l,pI v1,pI v2,pI i] [] [(5000,pV (.int .u64 code))]) zC .n (FL [pS l,pI v1,pI v2,pI i'] [] [(5000,pV (.int .u64 code'))]) zC:=
 goes (x:=.n) (y:=.n) (Fb:=FL [pS l,pI v1,pI v2,pI i,pB v501,pV (.int .u8 (b504.toNat:Int)),pB v507,pB v509,pV (.int .u8 v511),pI v513,pB v517,pI v519] [] [(5000,pV (.int .u64 code)),(5001,pV (.int .u64 v512)),(5002,pV (.int .u64 v515)),(5003,pV (.int .u64 v516))]) (stb:=zC) (tl:=[.sl 0 (.o (.c (.p 0 0))),.sl 3 (.o (.c (.h 5003))),.sl 6 (.o (.c (.p 0 0))),.sl 7 (.o (.c (.k (.bool false)))),.sl 8 (.o (.c (.p 0 0))),.sl 9 (.o (.c (.p 0 0))),.sl 10 (.o (.c (.p 0 0))),.sl 11 (.o (.c (.h 0))),.sl 12 (.o (.c (.h 1))),.sl 13 (.o (.c (.h 2))),.sl 14 (.o (.c (.h 11))),.bx 0 62 [.h 0,.k (.bool false)]]) (C:=((1005000,.bin .lss 3 (LF (.h 3)) (LF (.h 2)) (LF (.h 4))) ::
  (10004,.fb 4 true) ::
  (1005008,.op (.ix 9) [LF (.h 0),LF (.h 3)] [] (LF (.h 5))) ::
  (1005011,.bin .eql 3 (LF (.h 3)) (LF (.k (.int .i64 9))) (LF (.h 6))) ::
  (10006,.fb 6 false) ::
  (1005018,.bin .gtr 3 (LF (.h 3)) (LF (.k (.int .i64 0))) (LF (.h 7))) ::
  (10007,.fb 7 false) ::
  (1005026,.bin .and 5 (LF (.h 5)) (LF (.k (.int .u8 127))) (LF (.h 8))) ::
  (1005027,.op (.cv 5 72) [LF (.h 8)] [] (LF (.h 5001))) ::
  (1005029,.bin .mul 3 (LF (.k (.int .i64 7))) (LF (.h 3)) (LF (.h 9))) ::
  (1005030,.bin .shl 72 (LF (.h 5001)) (LF (.h 9)) (LF (.h 5002))) ::
  (1005031,.bin .or 72 (LF (.h 5000)) (LF (.h 5002)) (LF (.h 5003))) ::
  (1005034,.bin .lss 5 (LF (.h 5)) (LF (.k (.int .u8 128))) (LF (.h 10))) ::
  (10010,.fb 10 false) ::
  (1005035,.bin .add 3 (LF (.h 3)) (LF (.k (.int .i64 1))) (LF (.h 11))) ::
  []:List (Nat×Ent))) (H:=.no) 5000 (zipA.imp ⟨z_c (fun _ _ _ h=>h),z_c (fun _ _ _ h=>h),z_c (fun _ _ _ h=>h),z_c (fun _ _ _ h=>h),z_c (fun _ _ _ h=>h),z_c (fun _ _ _ h=>h),z_c (fun _ _ _ h=>h),z_c (fun _ _ _ h=>h),z_c (fun _ _ _ h=>h),z_c (fun _ _ _ h=>h),z_c (fun _ _ _ h=>h),z_b ⟨fun _ _ _ h=>h,fun _ _ _ h=>h,trivial⟩,trivial⟩) (zf ⟨zb rfl,zb rfl,zb rfl,zb rfl,zb rfl,zb rfl,zb rfl,zb rfl,zb rfl,zb rfl,zb rfl,zb rfl,trivial⟩ trivial ⟨⟨rfl,zh⟩,⟨rfl,zh⟩,⟨rfl,zh⟩,⟨rfl,zh⟩,trivial⟩) ⟨e_bin (za rfl) (za rfl) (za rfl) (r_cmp (congrArg some e501)),
  e_fb (show pV (.bool v501)=_ by rw [h502]),
  e_op2 (za rfl) (za rfl) (za rfl) (r_ix (by kernel_rfl) s505 s506),
  e_bin (za rfl) zd (za rfl) (r_cmp (congrArg some e507)),
  e_fb (show pV (.bool v507)=_ by rw [h508]),
  e_bin (za rfl) zd (za rfl) (r_cmp (congrArg some e509)),
  e_fb (show pV (.bool v509)=_ by rw [h510]),
  e_bin (za rfl) zd (za rfl) (zL (congrArg some e511)),
  e_op1 (za rfl) (za rfl) (fun W=>by rw [← e512];exact r_cvi (by kernel_rfl) (by kernel_rfl) W),
  e_bin zd (za rfl) (za rfl) (r_ar (congrArg some e513)),
  e_bin (za rfl) (za rfl) (za rfl) (fun W X Y=>by rw [← e515];exact r_shl s514 W X Y),
  e_bin (za rfl) (za rfl) (za rfl) (zL (congrArg some e516)),
  e_bin (za rfl) zd (za rfl) (r_cmp (congrArg some e517)),
  e_fb (show pV (.bool v517)=_ by rw [h518]),
  e_bin (za rfl) zd (za rfl) (r_ar (congrArg some e519)),
  trivial⟩ mixed hR trivial (fun _ _ _ hs=>by cases hs) (by kernel_rfl:zz (KN w0) Tryz.prog _ .no ⟨ntOf Tryz.prog 36,[0],[]⟩ (lp Tryz.prog 36 0) 5000 zC .n [.sl 0 (.o (.c (.p 0 0))),.sl 3 (.o (.c (.h 5003))),.sl 6 (.o (.c (.p 0 0))),.sl 7 (.o (.c (.k (.bool false)))),.sl 8 (.o (.c (.p 0 0))),.sl 9 (.o (.c (.p 0 0))),.sl 10 (.o (.c (.p 0 0))),.sl 11 (.o (.c (.h 0))),.sl 12 (.o (.c (.h 1))),.sl 13 (.o (.c (.h 2))),.sl 14 (.o (.c (.h 11))),.bx 0 62 [.h 0,.k (.bool false)]]=true) rfl (zipA.imp ⟨z_c (fun _ _ _ h=>h),z_c (fun β v W h=>(zc rfl β v W).2 (by rw [← q0];exact h)),z_c (fun _ _ _ h=>h),z_c (fun _ _ _ h=>h),z_c (fun _ _ _ h=>h),z_c (fun _ _ _ h=>h),z_c (fun _ _ _ h=>h),z_c (fun _ _ _ h=>h),z_c (fun _ _ _ h=>h),z_c (fun _ _ _ h=>h),z_c (fun β v W h=>(zc rfl β v W).2 (by rw [← q1];exact h)),z_b ⟨fun _ _ _ h=>h,fun _ _ _ h=>h,trivial⟩,trivial⟩)
def wrA_X (l:(List UInt8)) (v1:Int) (v2:Int) (t:wrA_T) (o:Int) (l2:(List UInt8)):Prop:=(∃(v501:Bool),∃(n503:Nat),∃(b504:UInt8),∃(v507:Bool),∃(v509:Bool),∃(v511:Bool),∃(v513:Bool),∃(v515:Int),∃(v516:Int),∃(v517:Int),∃(v519:Int),∃(v520:Int),∃(v521:Bool),∃(v523:Int),∃(n524:Nat),∃(v526:(List UInt8)),∃(v528:Int),∃(v529:Int),∃(v530:Int),∃(v531:Int),∃(v532:Int),∃(v533:Int),((decide (t.i<v2))=v501)∧(((t.i == (9:Int)))=v507)∧((decide ((b504.toNat:Int) > (1:Int)))=v509)∧((decide (t.i > (0:Int)))=v511)∧((((b504.toNat:Int) == (0:Int)))=v513)∧((IntKind.u8.wrap (BitVec.ofInt IntKind.u8.bits (b504.toNat:Int) &&& BitVec.ofInt IntKind.u8.bits (127:Int)).toNat)=v515)∧((IntKind.u64.wrap v515)=v516)∧((IntKind.i64.wrap ((7:Int)*t.i))=v517)∧((IntKind.u64.wrap (v516*2 ^ min (v517:Int).toNat IntKind.u64.bits))=v519)∧((IntKind.u64.wrap (BitVec.ofInt IntKind.u64.bits t.code ||| BitVec.ofInt IntKind.u64.bits v519).toNat)=v520)∧((decide ((b504.toNat:Int)<(128:Int)))=v521)∧((IntKind.i64.wrap (t.i+(1:Int)))=v523)∧(((l:List UInt8).drop n524)=v526)∧(((v520:Int).fdiv (2 ^ min ((1:Int):Int).toNat IntKind.u64.bits))=v528)∧((IntKind.i64.wrap v528)=v529)∧((IntKind.u64.wrap (BitVec.ofInt IntKind.u64.bits v520 &&& BitVec.ofInt IntKind.u64.bits (1:Int)).toNat)=v530)∧((IntKind.i64.wrap v530)=v531)∧((IntKind.i64.wrap (0 - v531))=v532)∧((IntKind.i64.wrap (BitVec.ofInt IntKind.i64.bits v529 ^^^ BitVec.ofInt IntKind.i64.bits v532).toNat)=v533)∧(v501=true)∧(t.i=(n503:Int))∧((l:List UInt8)[n503]?=some b504)∧(v507=true)∧(v509=false)∧(v511=true)∧(v513=false)∧(0≤v517)∧(v521=true)∧(v523=(n524:Int))∧(n524≤(l:List UInt8).length)∧((v533)=o)∧((v526)=l2)∧True)∨(∃(v501:Bool),∃(n503:Nat),∃(b504:UInt8),∃(v507:Bool),∃(v509:Bool),∃(v511:Bool),∃(v513:Int),∃(v514:Int),∃(v515:Int),∃(v517:Int),∃(v518:Int),∃(v519:Bool),∃(v521:Int),∃(n522:Nat),∃(v524:(List UInt8)),∃(v526:Int),∃(v527:Int),∃(v528:Int),∃(v529:Int),∃(v530:Int),∃(v531:Int),((decide (t.i<v2))=v501)∧(((t.i == (9:Int)))=v507)∧((decide ((b504.toNat:Int) > (1:Int)))=v509)∧((decide (t.i > (0:Int)))=v511)∧((IntKind.u8.wrap (BitVec.ofInt IntKind.u8.bits (b504.toNat:Int) &&& BitVec.ofInt IntKind.u8.bits (127:Int)).toNat)=v513)∧((IntKind.u64.wrap v513)=v514)∧((IntKind.i64.wrap ((7:Int)*t.i))=v515)∧((IntKind.u64.wrap (v514*2 ^ min (v515:Int).toNat IntKind.u64.bits))=v517)∧((IntKind.u64.wrap (BitVec.ofInt IntKind.u64.bits t.code ||| BitVec.ofInt IntKind.u64.bits v517).toNat)=v518)∧((decide ((b504.toNat:Int)<(128:Int)))=v519)∧((IntKind.i64.wrap (t.i+(1:Int)))=v521)∧(((l:List UInt8).drop n522)=v524)∧(((v518:Int).fdiv (2 ^ min ((1:Int):Int).toNat IntKind.u64.bits))=v526)∧((IntKind.i64.wrap v526)=v527)∧((IntKind.u64.wrap (BitVec.ofInt IntKind.u64.bits v518 &&& BitVec.ofInt IntKind.u64.bits (1:Int)).toNat)=v528)∧((IntKind.i64.wrap v528)=v529)∧((IntKind.i64.wrap (0 - v529))=v530)∧((IntKind.i64.wrap (BitVec.ofInt IntKind.i64.bits v527 ^^^ BitVec.ofInt IntKind.i64.bits v530).toNat)=v531)∧(v501=true)∧(t.i=(n503:Int))∧((l:List UInt8)[n503]?=some b504)∧(v507=true)∧(v509=false)∧(v511=false)∧(0≤v515)∧(v519=true)∧(v521=(n522:Int))∧(n522≤(l:List UInt8).length)∧((v531)=o)∧((v524)=l2)∧True)∨(∃(v501:Bool),∃(n503:Nat),∃(b504:UInt8),∃(v507:Bool),∃(v509:Bool),∃(v511:Bool),∃(v513:Int),∃(v514:Int),∃(v515:Int),∃(v517:Int),∃(v518:Int),∃(v519:Bool),∃(v521:Int),∃(n522:Nat),∃(v524:(List UInt8)),∃(v526:Int),∃(v527:Int),∃(v528:Int),∃(v529:Int),∃(v530:Int),∃(v531:Int),((decide (t.i<v2))=v501)∧(((t.i == (9:Int)))=v507)∧((decide (t.i > (0:Int)))=v509)∧((((b504.toNat:Int) == (0:Int)))=v511)∧((IntKind.u8.wrap (BitVec.ofInt IntKind.u8.bits (b504.toNat:Int) &&& BitVec.ofInt IntKind.u8.bits (127:Int)).toNat)=v513)∧((IntKind.u64.wrap v513)=v514)∧((IntKind.i64.wrap ((7:Int)*t.i))=v515)∧((IntKind.u64.wrap (v514*2 ^ min (v515:Int).toNat IntKind.u64.bits))=v517)∧((IntKind.u64.wrap (BitVec.ofInt IntKind.u64.bits t.code ||| BitVec.ofInt IntKind.u64.bits v517).toNat)=v518)∧((decide ((b504.toNat:Int)<(128:Int)))=v519)∧((IntKind.i64.wrap (t.i+(1:Int)))=v521)∧(((l:List UInt8).drop n522)=v524)∧(((v518:Int).fdiv (2 ^ min ((1:Int):Int).toNat IntKind.u64.bits))=v526)∧((IntKind.i64.wrap v526)=v527)∧((IntKind.u64.wrap (BitVec.ofInt IntKind.u64.bits v518 &&& BitVec.ofInt IntKind.u64.bits (1:Int)).toNat)=v528)∧((IntKind.i64.wrap v528)=v529)∧((IntKind.i64.wrap (0 - v529))=v530)∧((IntKind.i64.wrap (BitVec.ofInt IntKind.i64.bits v527 ^^^ BitVec.ofInt IntKind.i64.bits v530).toNat)=v531)∧(v501=true)∧(t.i=(n503:Int))∧((l:List UInt8)[n503]?=some b504)∧(v507=false)∧(v509=true)∧(v511=false)∧(0≤v515)∧(v519=true)∧(v521=(n522:Int))∧(n522≤(l:List UInt8).length)∧((v531)=o)∧((v524)=l2)∧True)∨(∃(v501:Bool),∃(n503:Nat),∃(b504:UInt8),∃(v507:Bool),∃(v509:Bool),∃(v511:Int),∃(v512:Int),∃(v513:Int),∃(v515:Int),∃(v516:Int),∃(v517:Bool),∃(v519:Int),∃(n520:Nat),∃(v522:(List UInt8)),∃(v524:Int),∃(v525:Int),∃(v526:Int),∃(v527:Int),∃(v528:Int),∃(v529:Int),((decide (t.i<v2))=v501)∧(((t.i == (9:Int)))=v507)∧((decide (t.i > (0:Int)))=v509)∧((IntKind.u8.wrap (BitVec.ofInt IntKind.u8.bits (b504.toNat:Int) &&& BitVec.ofInt IntKind.u8.bits (127:Int)).toNat)=v511)∧((IntKind.u64.wrap v511)=v512)∧((IntKind.i64.wrap ((7:Int)*t.i))=v513)∧((IntKind.u64.wrap (v512*2 ^ min (v513:Int).toNat IntKind.u64.bits))=v515)∧((IntKind.u64.wrap (BitVec.ofInt IntKind.u64.bits t.code ||| BitVec.ofInt IntKind.u64.bits v515).toNat)=v516)∧((decide ((b504.toNat:Int)<(128:Int)))=v517)∧((IntKind.i64.wrap (t.i+(1:Int)))=v519)∧(((l:List UInt8).drop n520)=v522)∧(((v516:Int).fdiv (2 ^ min ((1:Int):Int).toNat IntKind.u64.bits))=v524)∧((IntKind.i64.wrap v524)=v525)∧((IntKind.u64.wrap (BitVec.ofInt IntKind.u64.bits v516 &&& BitVec.ofInt IntKind.u64.bits (1:Int)).toNat)=v526)∧((IntKind.i64.wrap v526)=v527)∧((IntKind.i64.wrap (0 - v527))=v528)∧((IntKind.i64.wrap (BitVec.ofInt IntKind.i64.bits v525 ^^^ BitVec.ofInt IntKind.i64.bits v528).toNat)=v529)∧(v501=true)∧(t.i=(n503:Int))∧((l:List UInt8)[n503]?=some b504)∧(v507=false)∧(v509=false)∧(0≤v513)∧(v517=true)∧(v519=(n520:Int))∧(n520≤(l:List UInt8).length)∧((v529)=o)∧((v522)=l2)∧True)
def wrA_N (l:(List UInt8)) (v1:Int) (v2:Int) (t t':wrA_T):Prop:=(∃(v501:Bool),∃(n503:Nat),∃(b504:UInt8),∃(v507:Bool),∃(v509:Bool),∃(v511:Bool),∃(v513:Bool),∃(v515:Int),∃(v516:Int),∃(v517:Int),∃(v519:Int),∃(v520:Int),∃(v521:Bool),∃(v523:Int),((decide (t.i<v2))=v501)∧(((t.i == (9:Int)))=v507)∧((decide ((b504.toNat:Int) > (1:Int)))=v509)∧((decide (t.i > (0:Int)))=v511)∧((((b504.toNat:Int) == (0:Int)))=v513)∧((IntKind.u8.wrap (BitVec.ofInt IntKind.u8.bits (b504.toNat:Int) &&& BitVec.ofInt IntKind.u8.bits (127:Int)).toNat)=v515)∧((IntKind.u64.wrap v515)=v516)∧((IntKind.i64.wrap ((7:Int)*t.i))=v517)∧((IntKind.u64.wrap (v516*2 ^ min (v517:Int).toNat IntKind.u64.bits))=v519)∧((IntKind.u64.wrap (BitVec.ofInt IntKind.u64.bits t.code ||| BitVec.ofInt IntKind.u64.bits v519).toNat)=v520)∧((decide ((b504.toNat:Int)<(128:Int)))=v521)∧((IntKind.i64.wrap (t.i+(1:Int)))=v523)∧(v501=true)∧(t.i=(n503:Int))∧((l:List UInt8)[n503]?=some b504)∧(v507=true)∧(v509=false)∧(v511=true)∧(v513=false)∧(0≤v517)∧(v521=false)∧((v520)=t'.code)∧((v523)=t'.i)∧True)∨(∃(v501:Bool),∃(n503:Nat),∃(b504:UInt8),∃(v507:Bool),∃(v509:Bool),∃(v511:Bool),∃(v513:Int),∃(v514:Int),∃(v515:Int),∃(v517:Int),∃(v518:Int),∃(v519:Bool),∃(v521:Int),((decide (t.i<v2))=v501)∧(((t.i == (9:Int)))=v507)∧((decide ((b504.toNat:Int) > (1:Int)))=v509)∧((decide (t.i > (0:Int)))=v511)∧((IntKind.u8.wrap (BitVec.ofInt IntKind.u8.bits (b504.toNat:Int) &&& BitVec.ofInt IntKind.u8.bits (127:Int)).toNat)=v513)∧((IntKind.u64.wrap v513)=v514)∧((IntKind.i64.wrap ((7:Int)*t.i))=v515)∧((IntKind.u64.wrap (v514*2 ^ min (v515:Int).toNat IntKind.u64.bits))=v517)∧((IntKind.u64.wrap (BitVec.ofInt IntKind.u64.bits t.code ||| BitVec.ofInt IntKind.u64.bits v517).toNat)=v518)∧((decide ((b504.toNat:Int)<(128:Int)))=v519)∧((IntKind.i64.wrap (t.i+(1:Int)))=v521)∧(v501=true)∧(t.i=(n503:Int))∧((l:List UInt8)[n503]?=some b504)∧(v507=true)∧(v509=false)∧(v511=false)∧(0≤v515)∧(v519=false)∧((v518)=t'.code)∧((v521)=t'.i)∧True)∨(∃(v501:Bool),∃(n503:Nat),∃(b504:UInt8),∃(v507:Bool),∃(v509:Bool),∃(v511:Bool),∃(v513:Int),∃(v514:Int),∃(v515:Int),∃(v517:Int),∃(v518:Int),∃(v519:Bool),∃(v521:Int),((decide (t.i<v2))=v501)∧(((t.i == (9:Int)))=v507)∧((decide (t.i > (0:Int)))=v509)∧((((b504.toNat:Int) == (0:Int)))=v511)∧((IntKind.u8.wrap (BitVec.ofInt IntKind.u8.bits (b504.toNat:Int) &&& BitVec.ofInt IntKind.u8.bits (127:Int)).toNat)=v513)∧((IntKind.u64.wrap v513)=v514)∧((IntKind.i64.wrap ((7:Int)*t.i))=v515)∧((IntKind.u64.wrap (v514*2 ^ min (v515:Int).toNat IntKind.u64.bits))=v517)∧((IntKind.u64.wrap (BitVec.ofInt IntKind.u64.bits t.code ||| BitVec.ofInt IntKind.u64.bits v517).toNat)=v518)∧((decide ((b504.toNat:Int)<(128:Int)))=v519)∧((IntKind.i64.wrap (t.i+(1:Int)))=v521)∧(v501=true)∧(t.i=(n503:Int))∧((l:List UInt8)[n503]?=some b504)∧(v507=false)∧(v509=true)∧(v511=false)∧(0≤v515)∧(v519=false)∧((v518)=t'.code)∧((v521)=t'.i)∧True)∨(∃(v501:Bool),∃(n503:Nat),∃(b504:UInt8),∃(v507:Bool),∃(v509:Bool),∃(v511:Int),∃(v512:Int),∃(v513:Int),∃(v515:Int),∃(v516:Int),∃(v517:Bool),∃(v519:Int),((decide (t.i<v2))=v501)∧(((t.i == (9:Int)))=v507)∧((decide (t.i > (0:Int)))=v509)∧((IntKind.u8.wrap (BitVec.ofInt IntKind.u8.bits (b504.toNat:Int) &&& BitVec.ofInt IntKind.u8.bits (127:Int)).toNat)=v511)∧((IntKind.u64.wrap v511)=v512)∧((IntKind.i64.wrap ((7:Int)*t.i))=v513)∧((IntKind.u64.wrap (v512*2 ^ min (v513:Int).toNat IntKind.u64.bits))=v515)∧((IntKind.u64.wrap (BitVec.ofInt IntKind.u64.bits t.code ||| BitVec.ofInt IntKind.u64.bits v515).toNat)=v516)∧((decide ((b504.toNat:Int)<(128:Int)))=v517)∧((IntKind.i64.wrap (t.i+(1:Int)))=v519)∧(v501=true)∧(t.i=(n503:Int))∧((l:List UInt8)[n503]?=some b504)∧(v507=false)∧(v509=false)∧(0≤v513)∧(v517=false)∧((v516)=t'.code)∧((v519)=t'.i)∧True)
theorem zmd {w0:World} (l:(List UInt8)) (v1:Int) (v2:Int) (o:Int) (l2:(List UInt8)) {F:Fact} (u0:F.c 0=pS l) (u1:F.c 1=pI v1) (u2:F.c 2=pI v2) (u3:F.c 3=pI o) (u4:F.c 4=pS l2) (R:Frm) (hR:R.pm=⟨ntOf Tryz.prog 36,[0],[]⟩) (J:wrA_T→Prop) (m:wrA_T→Nat) (hJ:J { code:=(0:Int),i:=(0:Int) }) (rounds:∀t,J t→wrA_X l v1 v2 t o l2∨∃t',wrA_N l v1 v2 t t'∧m t'<m t∧J t'):zg (KN w0) Tryz.prog F R wrA_S (lp Tryz.prog 36 0):=by
 refine zP (T:=wrA_T) (fun t=>FL [pS l,pI v1,pI v2,pI t.i] [] [(5000,pV (.int .u64 t.code))]) J m { code:=(0:Int),i:=(0:Int) } zC hJ (zipA.imp ⟨z_c (fun _ _ _ h=>h),z_c (fun _ _ _ h=>h),z_c (fun _ _ _ h=>h),z_c (fun _ _ _ h=>h),z_c (fun _ _ _ h=>h),z_c (fun _ _ _ h=>h),z_c (fun _ _ _ h=>h),z_c (fun β v W h=>(zc u0 β v W).1 h),z_c (fun β v W h=>(zc u1 β v W).1 h),z_c (fun β v W h=>(zc u2 β v W).1 h),z_c (fun _ _ _ h=>h),z_b ⟨fun β v W h=>(zc u0 β v W).1 h,fun _ _ _ h=>h,trivial⟩,trivial⟩) rfl fun t ht=>?_
 rcases rounds t ht with hz_ | ⟨t',hz_,hm_,hj_⟩
 ·refine .inl ?_
  rcases hz_ with ⟨v501,n503,b504,v507,v509,v511,v513,v515,v516,v517,v519,v520,v521,v523,n524,v526,v528,v529,v530,v531,v532,v533,e501,e507,e509,e511,e513,e515,e516,e517,e519,e520,e521,e523,e526,e528,e529,e530,e531,e532,e533,h502,s505,s506,h508,h510,h512,h514,s518,h522,s525,s527,q0,q1,_⟩ | ⟨v501,n503,b504,v507,v509,v511,v513,v514,v515,v517,v518,v519,v521,n522,v524,v526,v527,v528,v529,v530,v531,e501,e507,e509,e511,e513,e514,e515,e517,e518,e519,e521,e524,e526,e527,e528,e529,e530,e531,h502,s505,s506,h508,h510,h512,s516,h520,s523,s525,q0,q1,_⟩ | ⟨v501,n503,b504,v507,v509,v511,v513,v514,v515,v517,v518,v519,v521,n522,v524,v526,v527,v528,v529,v530,v531,e501,e507,e509,e511,e513,e514,e515,e517,e518,e519,e521,e524,e526,e527,e528,e529,e530,e531,h502,s505,s506,h508,h510,h512,s516,h520,s523,s525,q0,q1,_⟩ | ⟨v501,n503,b504,v507,v509,v511,v512,v513,v515,v516,v517,v519,n520,v522,v524,v525,v526,v527,v528,v529,e501,e507,e509,e511,e512,e513,e515,e516,e517,e519,e522,e524,e525,e526,e527,e528,e529,h502,s505,s506,h508,h510,s514,h518,s521,s523,q0,q1,_⟩
  ·exact zoN  l v1 v2  t.code t.i v501 n503 b504 v507 v509 v511 v513 v515 v516 v517 v519 v520 v521 v523 n524 v526 v528 v529 v530 v531 v532 v533 e501 e507 e509 e511 e513 e515 e516 e517 e519 e520 e521 e523 e526 e528 e529 e530 e531 e532 e533 h502 s505 s506 h508 h510 h512 h514 s518 h522 s525 s527 o l2 F u0 u1 u2 u3 u4 q0 q1 R hR
  ·exact zoP  l v1 v2  t.code t.i v501 n503 b504 v507 v509 v511 v513 v514 v515 v517 v518 v519 v521 n522 v524 v526 v527 v528 v529 v530 v531 e501 e507 e509 e511 e513 e514 e515 e517 e518 e519 e521 e524 e526 e527 e528 e529 e530 e531 h502 s505 s506 h508 h510 h512 s516 h520 s523 s525 o l2 F u0 u1 u2 u3 u4 q0 q1 R hR
  ·exact zoR  l v1 v2  t.code t.i v501 n503 b504 v507 v509 v511 v513 v514 v515 v517 v518 v519 v521 n522 v524 v526 v527 v528 v529 v530 v531 e501 e507 e509 e511 e513 e514 e515 e517 e518 e519 e521 e524 e526 e527 e528 e529 e530 e531 h502 s505 s506 h508 h510 h512 s516 h520 s523 s525 o l2 F u0 u1 u2 u3 u4 q0 q1 R hR
  ·exact zoT  l v1 v2  t.code t.i v501 n503 b504 v507 v509 v511 v512 v513 v515 v516 v517 v519 n520 v522 v524 v525 v526 v527 v528 v529 e501 e507 e509 e511 e512 e513 e515 e516 e517 e519 e522 e524 e525 e526 e527 e528 e529 h502 s505 s506 h508 h510 s514 h518 s521 s523 o l2 F u0 u1 u2 u3 u4 q0 q1 R hR
 ·refine .inr ⟨t',hm_,hj_,?_⟩
  rcases hz_ with ⟨v501,n503,b504,v507,v509,v511,v513,v515,v516,v517,v519,v520,v521,v523,e501,e507,e509,e511,e513,e515,e516,e517,e519,e520,e521,e523,h502,s505,s506,h508,h510,h512,h514,s518,h522,q0,q1,_⟩ | ⟨v501,n503,b504,v507,v509,v511,v513,v514,v515,v517,v518,v519,v521,e501,e507,e509,e511,e513,e514,e515,e517,e518,e519,e521,h502,s505,s506,h508,h510,h512,s516,h520,q0,q1,_⟩ | ⟨v501,n503,b504,v507,v509,v511,v513,v514,v515,v517,v518,v519,v521,e501,e507,e509,e511,e513,e514,e515,e517,e518,e519,e521,h502,s505,s506,h508,h510,h512,s516,h520,q0,q1,_⟩ | ⟨v501,n503,b504,v507,v509,v511,v512,v513,v515,v516,v517,v519,e501,e507,e509,e511,e512,e513,e515,e516,e517,e519,h502,s505,s506,h508,h510,s514,h518,q0,q1,_⟩
  ·exact zoO  l v1 v2  t.code t.i v501 n503 b504 v507 v509 v511 v513 v515 v516 v517 v519 v520 v521 v523 e501 e507 e509 e511 e513 e515 e516 e517 e519 e520 e521 e523 h502 s505 s506 h508 h510 h512 h514 s518 h522 t'.code t'.i q0 q1 R hR
  ·exact zoQ  l v1 v2  t.code t.i v501 n503 b504 v507 v509 v511 v513 v514 v515 v517 v518 v519 v521 e501 e507 e509 e511 e513 e514 e515 e517 e518 e519 e521 h502 s505 s506 h508 h510 h512 s516 h520 t'.code t'.i q0 q1 R hR
  ·exact zoS  l v1 v2  t.code t.i v501 n503 b504 v507 v509 v511 v513 v514 v515 v517 v518 v519 v521 e501 e507 e509 e511 e513 e514 e515 e517 e518 e519 e521 h502 s505 s506 h508 h510 h512 s516 h520 t'.code t'.i q0 q1 R hR
  ·exact znW  l v1 v2  t.code t.i v501 n503 b504 v507 v509 v511 v512 v513 v515 v516 v517 v519 e501 e507 e509 e511 e512 e513 e515 e516 e517 e519 h502 s505 s506 h508 h510 s514 h518 t'.code t'.i q0 q1 R hR
theorem zoM {w0:World} (l:(List UInt8)) (v1:Int) (v2:Int) (o:Int) (l2:(List UInt8)) {F:Fact} (u0:F.c 0=pS l) (u1:F.c 1=pI v1) (u2:F.c 2=pI v2) (u3:F.c 3=pI o) (u4:F.c 4=pS l2) (R:Frm) (hR:R.pm=⟨ntOf Tryz.prog 36,[0],[]⟩) (h1:((l:List UInt8).length:Int)=v1) (h2:(if v1<(10:Int) then v1 else (10:Int))=v2) (hd:(decGo 0 l).isSome=true) (hO:decI l=some (o,l2)):zg (KN w0) Tryz.prog F R wrA_S (lp Tryz.prog 36 0):=by
 refine zmd  l v1 v2  o l2 u0 u1 u2 u3 u4 R hR (fun ⟨code,i⟩=>∃k c:Nat,i=(k:Int)∧code=(c:Int)∧RdJ l k c) (fun ⟨code,i⟩=>(10 - i).toNat) ⟨0,0,rfl,rfl,ze3 l⟩ fun t hJ=>?_
 obtain ⟨code,i⟩:=t
 dsimp only at hJ
 obtain ⟨k,c,hi,hc,hJ⟩:=hJ
 have hk9:=hJ.1
 obtain ⟨v501,e501⟩:∃v,(decide (i<v2))=v:=⟨_,rfl⟩
 cases h502:v501 with
 | true =>
  obtain ⟨n503,b504,s505,s506⟩:∃(n503:Nat) (b504:UInt8),i=(n503:Int)∧(l:List UInt8)[n503]?=some b504:=by (have dh502:=of_decide_eq_true (e501.trans h502);have hlt:k<l.length:=(by split at h2<;>omega);exact ⟨k,l[k],hi,List.getElem?_eq_getElem hlt⟩)
  obtain ⟨v507,e507⟩:∃v,((i == (9:Int)))=v:=⟨_,rfl⟩
  cases h508:v507 with
  | true =>
   obtain ⟨v509,e509⟩:∃v,(decide ((b504.toNat:Int) > (1:Int)))=v:=⟨_,rfl⟩
   cases h510:v509 with
   | true =>
    exfalso
    have dh502:=of_decide_eq_true (e501.trans h502);have dh508:=eq_of_beq (e507.trans h508);have dh510:=of_decide_eq_true (e509.trans h510)
    have hnk:n503=k:=(by omega)
    subst hnk
    have hb:=s506
    have hz:=zgP hJ hb (by unfold badB;omega)
    rw [hz] at hd
    cases hd
   | false =>
    obtain ⟨v511,e511⟩:∃v,(decide (i > (0:Int)))=v:=⟨_,rfl⟩
    cases h512:v511 with
    | true =>
     obtain ⟨v513,e513⟩:∃v,(((b504.toNat:Int) == (0:Int)))=v:=⟨_,rfl⟩
     cases h514:v513 with
     | true =>
      exfalso
      have dh502:=of_decide_eq_true (e501.trans h502);have dh508:=eq_of_beq (e507.trans h508);have dh510:=of_decide_eq_false (e509.trans h510);have dh512:=of_decide_eq_true (e511.trans h512);have dh514:=eq_of_beq (e513.trans h514)
      have hnk:n503=k:=(by omega)
      subst hnk
      have hb:=s506
      have hz:=zgP hJ hb (by unfold badB;omega)
      rw [hz] at hd
      cases hd
     | false =>
      obtain ⟨v515,e515⟩:∃v,(IntKind.u8.wrap (BitVec.ofInt IntKind.u8.bits (b504.toNat:Int) &&& BitVec.ofInt IntKind.u8.bits (127:Int)).toNat)=v:=⟨_,rfl⟩
      obtain ⟨v516,e516⟩:∃v,(IntKind.u64.wrap v515)=v:=⟨_,rfl⟩
      obtain ⟨v517,e517⟩:∃v,(IntKind.i64.wrap ((7:Int)*i))=v:=⟨_,rfl⟩
      have s518:0≤v517:=by (rw [← e517,hi,wri (by omega)];omega)
      obtain ⟨v519,e519⟩:∃v,(IntKind.u64.wrap (v516*2 ^ min (v517:Int).toNat IntKind.u64.bits))=v:=⟨_,rfl⟩
      obtain ⟨v520,e520⟩:∃v,(IntKind.u64.wrap (BitVec.ofInt IntKind.u64.bits code ||| BitVec.ofInt IntKind.u64.bits v519).toNat)=v:=⟨_,rfl⟩
      obtain ⟨v521,e521⟩:∃v,(decide ((b504.toNat:Int)<(128:Int)))=v:=⟨_,rfl⟩
      cases h522:v521 with
      | true =>
       obtain ⟨v523,e523⟩:∃v,(IntKind.i64.wrap (i+(1:Int)))=v:=⟨_,rfl⟩
       obtain ⟨n524,s525⟩:∃(n524:Nat),v523=(n524:Int):=by (refine ⟨k+1,?_⟩;rw [← e523,hi,wri (by omega)];omega)
       obtain ⟨v526,e526⟩:∃v,((l:List UInt8).drop n524)=v:=⟨_,rfl⟩
       have s527:n524≤(l:List UInt8).length:=by (have dh502:=of_decide_eq_true (e501.trans h502);have dh508:=eq_of_beq (e507.trans h508);have dh510:=of_decide_eq_false (e509.trans h510);have dh512:=of_decide_eq_true (e511.trans h512);have dh514:=ne_of_beq_false (e513.trans h514);have dh522:=of_decide_eq_true (e521.trans h522);have hlt:k<l.length:=(by split at h2<;>omega);have:=e523;rw [hi,wri (by omega)] at this;omega)
       obtain ⟨v528,e528⟩:∃v,((v520:Int).fdiv (2 ^ min ((1:Int):Int).toNat IntKind.u64.bits))=v:=⟨_,rfl⟩
       obtain ⟨v529,e529⟩:∃v,(IntKind.i64.wrap v528)=v:=⟨_,rfl⟩
       obtain ⟨v530,e530⟩:∃v,(IntKind.u64.wrap (BitVec.ofInt IntKind.u64.bits v520 &&& BitVec.ofInt IntKind.u64.bits (1:Int)).toNat)=v:=⟨_,rfl⟩
       obtain ⟨v531,e531⟩:∃v,(IntKind.i64.wrap v530)=v:=⟨_,rfl⟩
       obtain ⟨v532,e532⟩:∃v,(IntKind.i64.wrap (0 - v531))=v:=⟨_,rfl⟩
       obtain ⟨v533,e533⟩:∃v,(IntKind.i64.wrap (BitVec.ofInt IntKind.i64.bits v529 ^^^ BitVec.ofInt IntKind.i64.bits v532).toNat)=v:=⟨_,rfl⟩
       refine .inl (Or.inl (⟨v501,n503,b504,v507,v509,v511,v513,v515,v516,v517,v519,v520,v521,v523,n524,v526,v528,v529,v530,v531,v532,v533,e501,e507,e509,e511,e513,e515,e516,e517,e519,e520,e521,e523,e526,e528,e529,e530,e531,e532,e533,h502,s505,s506,h508,h510,h512,h514,s518,h522,s525,s527,?_,?_,trivial⟩))
       all_goals (have dh502:=of_decide_eq_true (e501.trans h502);have dh508:=eq_of_beq (e507.trans h508);have dh510:=of_decide_eq_false (e509.trans h510);have dh512:=of_decide_eq_true (e511.trans h512);have dh514:=ne_of_beq_false (e513.trans h514);have dh522:=of_decide_eq_true (e521.trans h522);have hnk:n503=k:=(by omega);subst hnk;have hb:=s506;have hnb:¬ badB n503 b504:=(by unfold badB;omega);have x1:v516=((b504.toNat%128:Nat):Int):=(by rw [← e516,← e515,and8,wu64];omega);have x2:v517=((7*n503:Nat):Int):=(by rw [← e517,hi,wri (by omega)];omega);have x3:v520=((c+2 ^ (7*n503)*(b504.toNat%128):Nat):Int):=(by rw [← e520,← e519,x1,x2,hc];exact rd_or hJ hnb);have hs:b504.toNat<128:=(by omega);have hdn:=qW hJ hb hnb hs;unfold decI at hO;rw [hdn] at hO;simp only [Option.map_some,Option.some.injEq,Prod.mk.injEq] at hO;obtain ⟨h3,h4⟩:=hO)
       ·rw [← h3,← zaV (zhp hdn)]
        rw [Nat.mod_eq_of_lt hs] at x3
        rw [← x3]
        rw [← e533,← e532,← e531,← e530,← e529,← e528]
        rfl
       ·rw [← h4,← e526,show n524=n503+1 by (have:=e523;rw [hi,wri (by omega)] at this;omega)]
      | false =>
       obtain ⟨v523,e523⟩:∃v,(IntKind.i64.wrap (i+(1:Int)))=v:=⟨_,rfl⟩
       refine .inr ⟨⟨v520,v523⟩,Or.inl (⟨v501,n503,b504,v507,v509,v511,v513,v515,v516,v517,v519,v520,v521,v523,e501,e507,e509,e511,e513,e515,e516,e517,e519,e520,e521,e523,h502,s505,s506,h508,h510,h512,h514,s518,h522,rfl,rfl,trivial⟩),?_,?_⟩
       all_goals (have dh502:=of_decide_eq_true (e501.trans h502);have dh508:=eq_of_beq (e507.trans h508);have dh510:=of_decide_eq_false (e509.trans h510);have dh512:=of_decide_eq_true (e511.trans h512);have dh514:=ne_of_beq_false (e513.trans h514);have dh522:=of_decide_eq_false (e521.trans h522);have hnk:n503=k:=(by omega);subst hnk;have hb:=s506;have hnb:¬ badB n503 b504:=(by unfold badB;omega);have x1:v516=((b504.toNat%128:Nat):Int):=(by rw [← e516,← e515,and8,wu64];omega);have x2:v517=((7*n503:Nat):Int):=(by rw [← e517,hi,wri (by omega)];omega);have x3:v520=((c+2 ^ (7*n503)*(b504.toNat%128):Nat):Int):=(by rw [← e520,← e519,x1,x2,hc];exact rd_or hJ hnb);have x4:v523=((n503+1:Nat):Int):=(by rw [← e523,hi,wri (by omega)];omega);have hbl:=b504.toNat_lt)
       ·show (10 - v523).toNat<(10 - i).toNat
        omega
       ·exact ⟨n503+1,_,x4,(by rw [x3,show b504.toNat%128=b504.toNat - 128 by omega]),qX hJ hb hnb (by omega)⟩
    | false =>
     obtain ⟨v513,e513⟩:∃v,(IntKind.u8.wrap (BitVec.ofInt IntKind.u8.bits (b504.toNat:Int) &&& BitVec.ofInt IntKind.u8.bits (127:Int)).toNat)=v:=⟨_,rfl⟩
     obtain ⟨v514,e514⟩:∃v,(IntKind.u64.wrap v513)=v:=⟨_,rfl⟩
     obtain ⟨v515,e515⟩:∃v,(IntKind.i64.wrap ((7:Int)*i))=v:=⟨_,rfl⟩
     have s516:0≤v515:=by (rw [← e515,hi,wri (by omega)];omega)
     obtain ⟨v517,e517⟩:∃v,(IntKind.u64.wrap (v514*2 ^ min (v515:Int).toNat IntKind.u64.bits))=v:=⟨_,rfl⟩
     obtain ⟨v518,e518⟩:∃v,(IntKind.u64.wrap (BitVec.ofInt IntKind.u64.bits code ||| BitVec.ofInt IntKind.u64.bits v517).toNat)=v:=⟨_,rfl⟩
     obtain ⟨v519,e519⟩:∃v,(decide ((b504.toNat:Int)<(128:Int)))=v:=⟨_,rfl⟩
     cases h520:v519 with
     | true =>
      obtain ⟨v521,e521⟩:∃v,(IntKind.i64.wrap (i+(1:Int)))=v:=⟨_,rfl⟩
      obtain ⟨n522,s523⟩:∃(n522:Nat),v521=(n522:Int):=by (refine ⟨k+1,?_⟩;rw [← e521,hi,wri (by omega)];omega)
      obtain ⟨v524,e524⟩:∃v,((l:List UInt8).drop n522)=v:=⟨_,rfl⟩
      have s525:n522≤(l:List UInt8).length:=by (have dh502:=of_decide_eq_true (e501.trans h502);have dh508:=eq_of_beq (e507.trans h508);have dh510:=of_decide_eq_false (e509.trans h510);have dh512:=of_decide_eq_false (e511.trans h512);have dh520:=of_decide_eq_true (e519.trans h520);have hlt:k<l.length:=(by split at h2<;>omega);have:=e521;rw [hi,wri (by omega)] at this;omega)
      obtain ⟨v526,e526⟩:∃v,((v518:Int).fdiv (2 ^ min ((1:Int):Int).toNat IntKind.u64.bits))=v:=⟨_,rfl⟩
      obtain ⟨v527,e527⟩:∃v,(IntKind.i64.wrap v526)=v:=⟨_,rfl⟩
      obtain ⟨v528,e528⟩:∃v,(IntKind.u64.wrap (BitVec.ofInt IntKind.u64.bits v518 &&& BitVec.ofInt IntKind.u64.bits (1:Int)).toNat)=v:=⟨_,rfl⟩
      obtain ⟨v529,e529⟩:∃v,(IntKind.i64.wrap v528)=v:=⟨_,rfl⟩
      obtain ⟨v530,e530⟩:∃v,(IntKind.i64.wrap (0 - v529))=v:=⟨_,rfl⟩
      obtain ⟨v531,e531⟩:∃v,(IntKind.i64.wrap (BitVec.ofInt IntKind.i64.bits v527 ^^^ BitVec.ofInt IntKind.i64.bits v530).toNat)=v:=⟨_,rfl⟩
      refine .inl (Or.inr (Or.inl (⟨v501,n503,b504,v507,v509,v511,v513,v514,v515,v517,v518,v519,v521,n522,v524,v526,v527,v528,v529,v530,v531,e501,e507,e509,e511,e513,e514,e515,e517,e518,e519,e521,e524,e526,e527,e528,e529,e530,e531,h502,s505,s506,h508,h510,h512,s516,h520,s523,s525,?_,?_,trivial⟩)))
      all_goals (have dh502:=of_decide_eq_true (e501.trans h502);have dh508:=eq_of_beq (e507.trans h508);have dh510:=of_decide_eq_false (e509.trans h510);have dh512:=of_decide_eq_false (e511.trans h512);have dh520:=of_decide_eq_true (e519.trans h520);have hnk:n503=k:=(by omega);subst hnk;have hb:=s506;have hnb:¬ badB n503 b504:=(by unfold badB;omega);have x1:v514=((b504.toNat%128:Nat):Int):=(by rw [← e514,← e513,and8,wu64];omega);have x2:v515=((7*n503:Nat):Int):=(by rw [← e515,hi,wri (by omega)];omega);have x3:v518=((c+2 ^ (7*n503)*(b504.toNat%128):Nat):Int):=(by rw [← e518,← e517,x1,x2,hc];exact rd_or hJ hnb);have hs:b504.toNat<128:=(by omega);have hdn:=qW hJ hb hnb hs;unfold decI at hO;rw [hdn] at hO;simp only [Option.map_some,Option.some.injEq,Prod.mk.injEq] at hO;obtain ⟨h3,h4⟩:=hO)
      ·rw [← h3,← zaV (zhp hdn)]
       rw [Nat.mod_eq_of_lt hs] at x3
       rw [← x3]
       rw [← e531,← e530,← e529,← e528,← e527,← e526]
       rfl
      ·rw [← h4,← e524,show n522=n503+1 by (have:=e521;rw [hi,wri (by omega)] at this;omega)]
     | false =>
      obtain ⟨v521,e521⟩:∃v,(IntKind.i64.wrap (i+(1:Int)))=v:=⟨_,rfl⟩
      refine .inr ⟨⟨v518,v521⟩,Or.inr (Or.inl (⟨v501,n503,b504,v507,v509,v511,v513,v514,v515,v517,v518,v519,v521,e501,e507,e509,e511,e513,e514,e515,e517,e518,e519,e521,h502,s505,s506,h508,h510,h512,s516,h520,rfl,rfl,trivial⟩)),?_,?_⟩
      all_goals (have dh502:=of_decide_eq_true (e501.trans h502);have dh508:=eq_of_beq (e507.trans h508);have dh510:=of_decide_eq_false (e509.trans h510);have dh512:=of_decide_eq_false (e511.trans h512);have dh520:=of_decide_eq_false (e519.trans h520);have hnk:n503=k:=(by omega);subst hnk;have hb:=s506;have hnb:¬ badB n503 b504:=(by unfold badB;omega);have x1:v514=((b504.toNat%128:Nat):Int):=(by rw [← e514,← e513,and8,wu64];omega);have x2:v515=((7*n503:Nat):Int):=(by rw [← e515,hi,wri (by omega)];omega);have x3:v518=((c+2 ^ (7*n503)*(b504.toNat%128):Nat):Int):=(by rw [← e518,← e517,x1,x2,hc];exact rd_or hJ hnb);have x4:v521=((n503+1:Nat):Int):=(by rw [← e521,hi,wri (by omega)];omega);have hbl:=b504.toNat_lt)
      ·show (10 - v521).toNat<(10 - i).toNat
       omega
      ·exact ⟨n503+1,_,x4,(by rw [x3,show b504.toNat%128=b504.toNat - 128 by omega]),qX hJ hb hnb (by omega)⟩
  | false =>
   obtain ⟨v509,e509⟩:∃v,(decide (i > (0:Int)))=v:=⟨_,rfl⟩
   cases h510:v509 with
   | true =>
    obtain ⟨v511,e511⟩:∃v,(((b504.toNat:Int) == (0:Int)))=v:=⟨_,rfl⟩
    cases h512:v511 with
    | true =>
     exfalso
     have dh502:=of_decide_eq_true (e501.trans h502);have dh508:=ne_of_beq_false (e507.trans h508);have dh510:=of_decide_eq_true (e509.trans h510);have dh512:=eq_of_beq (e511.trans h512)
     have hnk:n503=k:=(by omega)
     subst hnk
     have hb:=s506
     have hz:=zgP hJ hb (by unfold badB;omega)
     rw [hz] at hd
     cases hd
    | false =>
     obtain ⟨v513,e513⟩:∃v,(IntKind.u8.wrap (BitVec.ofInt IntKind.u8.bits (b504.toNat:Int) &&& BitVec.ofInt IntKind.u8.bits (127:Int)).toNat)=v:=⟨_,rfl⟩
     obtain ⟨v514,e514⟩:∃v,(IntKind.u64.wrap v513)=v:=⟨_,rfl⟩
     obtain ⟨v515,e515⟩:∃v,(IntKind.i64.wrap ((7:Int)*i))=v:=⟨_,rfl⟩
     have s516:0≤v515:=by (rw [← e515,hi,wri (by omega)];omega)
     obtain ⟨v517,e517⟩:∃v,(IntKind.u64.wrap (v514*2 ^ min (v515:Int).toNat IntKind.u64.bits))=v:=⟨_,rfl⟩
     obtain ⟨v518,e518⟩:∃v,(IntKind.u64.wrap (BitVec.ofInt IntKind.u64.bits code ||| BitVec.ofInt IntKind.u64.bits v517).toNat)=v:=⟨_,rfl⟩
     obtain ⟨v519,e519⟩:∃v,(decide ((b504.toNat:Int)<(128:Int)))=v:=⟨_,rfl⟩
     cases h520:v519 with
     | true =>
      obtain ⟨v521,e521⟩:∃v,(IntKind.i64.wrap (i+(1:Int)))=v:=⟨_,rfl⟩
      obtain ⟨n522,s523⟩:∃(n522:Nat),v521=(n522:Int):=by (refine ⟨k+1,?_⟩;rw [← e521,hi,wri (by omega)];omega)
      obtain ⟨v524,e524⟩:∃v,((l:List UInt8).drop n522)=v:=⟨_,rfl⟩
      have s525:n522≤(l:List UInt8).length:=by (have dh502:=of_decide_eq_true (e501.trans h502);have dh508:=ne_of_beq_false (e507.trans h508);have dh510:=of_decide_eq_true (e509.trans h510);have dh512:=ne_of_beq_false (e511.trans h512);have dh520:=of_decide_eq_true (e519.trans h520);have hlt:k<l.length:=(by split at h2<;>omega);have:=e521;rw [hi,wri (by omega)] at this;omega)
      obtain ⟨v526,e526⟩:∃v,((v518:Int).fdiv (2 ^ min ((1:Int):Int).toNat IntKind.u64.bits))=v:=⟨_,rfl⟩
      obtain ⟨v527,e527⟩:∃v,(IntKind.i64.wrap v526)=v:=⟨_,rfl⟩
      obtain ⟨v528,e528⟩:∃v,(IntKind.u64.wrap (BitVec.ofInt IntKind.u64.bits v518 &&& BitVec.ofInt IntKind.u64.bits (1:Int)).toNat)=v:=⟨_,rfl⟩
      obtain ⟨v529,e529⟩:∃v,(IntKind.i64.wrap v528)=v:=⟨_,rfl⟩
      obtain ⟨v530,e530⟩:∃v,(IntKind.i64.wrap (0 - v529))=v:=⟨_,rfl⟩
      obtain ⟨v531,e531⟩:∃v,(IntKind.i64.wrap (BitVec.ofInt IntKind.i64.bits v527 ^^^ BitVec.ofInt IntKind.i64.bits v530).toNat)=v:=⟨_,rfl⟩
      refine .inl (Or.inr (Or.inr (Or.inl (⟨v501,n503,b504,v507,v509,v511,v513,v514,v515,v517,v518,v519,v521,n522,v524,v526,v527,v528,v529,v530,v531,e501,e507,e509,e511,e513,e514,e515,e517,e518,e519,e521,e524,e526,e527,e528,e529,e530,e531,h502,s505,s506,h508,h510,h512,s516,h520,s523,s525,?_,?_,trivial⟩))))
      all_goals (have dh502:=of_decide_eq_true (e501.trans h502);have dh508:=ne_of_beq_false (e507.trans h508);have dh510:=of_decide_eq_true (e509.trans h510);have dh512:=ne_of_beq_false (e511.trans h512);have dh520:=of_decide_eq_true (e519.trans h520);have hnk:n503=k:=(by omega);subst hnk;have hb:=s506;have hnb:¬ badB n503 b504:=(by unfold badB;omega);have x1:v514=((b504.toNat%128:Nat):Int):=(by rw [← e514,← e513,and8,wu64];omega);have x2:v515=((7*n503:Nat):Int):=(by rw [← e515,hi,wri (by omega)];omega);have x3:v518=((c+2 ^ (7*n503)*(b504.toNat%128):Nat):Int):=(by rw [← e518,← e517,x1,x2,hc];exact rd_or hJ hnb);have hs:b504.toNat<128:=(by omega);have hdn:=qW hJ hb hnb hs;unfold decI at hO;rw [hdn] at hO;simp only [Option.map_some,Option.some.injEq,Prod.mk.injEq] at hO;obtain ⟨h3,h4⟩:=hO)
      ·rw [← h3,← zaV (zhp hdn)]
       rw [Nat.mod_eq_of_lt hs] at x3
       rw [← x3]
       rw [← e531,← e530,← e529,← e528,← e527,← e526]
       rfl
      ·rw [← h4,← e524,show n522=n503+1 by (have:=e521;rw [hi,wri (by omega)] at this;omega)]
     | false =>
      obtain ⟨v521,e521⟩:∃v,(IntKind.i64.wrap (i+(1:Int)))=v:=⟨_,rfl⟩
      refine .inr ⟨⟨v518,v521⟩,Or.inr (Or.inr (Or.inl (⟨v501,n503,b504,v507,v509,v511,v513,v514,v515,v517,v518,v519,v521,e501,e507,e509,e511,e513,e514,e515,e517,e518,e519,e521,h502,s505,s506,h508,h510,h512,s516,h520,rfl,rfl,trivial⟩))),?_,?_⟩
      all_goals (have dh502:=of_decide_eq_true (e501.trans h502);have dh508:=ne_of_beq_false (e507.trans h508);have dh510:=of_decide_eq_true (e509.trans h510);have dh512:=ne_of_beq_false (e511.trans h512);have dh520:=of_decide_eq_false (e519.trans h520);have hnk:n503=k:=(by omega);subst hnk;have hb:=s506;have hnb:¬ badB n503 b504:=(by unfold badB;omega);have x1:v514=((b504.toNat%128:Nat):Int):=(by rw [← e514,← e513,and8,wu64];omega);have x2:v515=((7*n503:Nat):Int):=(by rw [← e515,hi,wri (by omega)];omega);have x3:v518=((c+2 ^ (7*n503)*(b504.toNat%128):Nat):Int):=(by rw [← e518,← e517,x1,x2,hc];exact rd_or hJ hnb);have x4:v521=((n503+1:Nat):Int):=(by rw [← e521,hi,wri (by omega)];omega);have hbl:=b504.toNat_lt)
      ·show (10 - v521).toNat<(10 - i).toNat
       omega
      ·exact ⟨n503+1,_,x4,(by rw [x3,show b504.toNat%128=b504.toNat - 128 by omega]),qX hJ hb hnb (by omega)⟩
   | false =>
    obtain ⟨v511,e511⟩:∃v,(IntKind.u8.wrap (BitVec.ofInt IntKind.u8.bits (b504.toNat:Int) &&& BitVec.ofInt IntKind.u8.bits (127:Int)).toNat)=v:=⟨_,rfl⟩
    obtain ⟨v512,e512⟩:∃v,(IntKind.u64.wrap v511)=v:=⟨_,rfl⟩
    obtain ⟨v513,e513⟩:∃v,(IntKind.i64.wrap ((7:Int)*i))=v:=⟨_,rfl⟩
    have s514:0≤v513:=by (rw [← e513,hi,wri (by omega)];omega)
    obtain ⟨v515,e515⟩:∃v,(IntKind.u64.wrap (v512*2 ^ min (v513:Int).toNat IntKind.u64.bits))=v:=⟨_,rfl⟩
    obtain ⟨v516,e516⟩:∃v,(IntKind.u64.wrap (BitVec.ofInt IntKind.u64.bits code ||| BitVec.ofInt IntKind.u64.bits v515).toNat)=v:=⟨_,rfl⟩
    obtain ⟨v517,e517⟩:∃v,(decide ((b504.toNat:Int)<(128:Int)))=v:=⟨_,rfl⟩
    cases h518:v517 with
    | true =>
     obtain ⟨v519,e519⟩:∃v,(IntKind.i64.wrap (i+(1:Int)))=v:=⟨_,rfl⟩
     obtain ⟨n520,s521⟩:∃(n520:Nat),v519=(n520:Int):=by (refine ⟨k+1,?_⟩;rw [← e519,hi,wri (by omega)];omega)
     obtain ⟨v522,e522⟩:∃v,((l:List UInt8).drop n520)=v:=⟨_,rfl⟩
     have s523:n520≤(l:List UInt8).length:=by (have dh502:=of_decide_eq_true (e501.trans h502);have dh508:=ne_of_beq_false (e507.trans h508);have dh510:=of_decide_eq_false (e509.trans h510);have dh518:=of_decide_eq_true (e517.trans h518);have hlt:k<l.length:=(by split at h2<;>omega);have:=e519;rw [hi,wri (by omega)] at this;omega)
     obtain ⟨v524,e524⟩:∃v,((v516:Int).fdiv (2 ^ min ((1:Int):Int).toNat IntKind.u64.bits))=v:=⟨_,rfl⟩
     obtain ⟨v525,e525⟩:∃v,(IntKind.i64.wrap v524)=v:=⟨_,rfl⟩
     obtain ⟨v526,e526⟩:∃v,(IntKind.u64.wrap (BitVec.ofInt IntKind.u64.bits v516 &&& BitVec.ofInt IntKind.u64.bits (1:Int)).toNat)=v:=⟨_,rfl⟩
     obtain ⟨v527,e527⟩:∃v,(IntKind.i64.wrap v526)=v:=⟨_,rfl⟩
     obtain ⟨v528,e528⟩:∃v,(IntKind.i64.wrap (0 - v527))=v:=⟨_,rfl⟩
     obtain ⟨v529,e529⟩:∃v,(IntKind.i64.wrap (BitVec.ofInt IntKind.i64.bits v525 ^^^ BitVec.ofInt IntKind.i64.bits v528).toNat)=v:=⟨_,rfl⟩
     refine .inl (Or.inr (Or.inr (Or.inr (⟨v501,n503,b504,v507,v509,v511,v512,v513,v515,v516,v517,v519,n520,v522,v524,v525,v526,v527,v528,v529,e501,e507,e509,e511,e512,e513,e515,e516,e517,e519,e522,e524,e525,e526,e527,e528,e529,h502,s505,s506,h508,h510,s514,h518,s521,s523,?_,?_,trivial⟩))))
     all_goals (have dh502:=of_decide_eq_true (e501.trans h502);have dh508:=ne_of_beq_false (e507.trans h508);have dh510:=of_decide_eq_false (e509.trans h510);have dh518:=of_decide_eq_true (e517.trans h518);have hnk:n503=k:=(by omega);subst hnk;have hb:=s506;have hnb:¬ badB n503 b504:=(by unfold badB;omega);have x1:v512=((b504.toNat%128:Nat):Int):=(by rw [← e512,← e511,and8,wu64];omega);have x2:v513=((7*n503:Nat):Int):=(by rw [← e513,hi,wri (by omega)];omega);have x3:v516=((c+2 ^ (7*n503)*(b504.toNat%128):Nat):Int):=(by rw [← e516,← e515,x1,x2,hc];exact rd_or hJ hnb);have hs:b504.toNat<128:=(by omega);have hdn:=qW hJ hb hnb hs;unfold decI at hO;rw [hdn] at hO;simp only [Option.map_some,Option.some.injEq,Prod.mk.injEq] at hO;obtain ⟨h3,h4⟩:=hO)
     ·rw [← h3,← zaV (zhp hdn)]
      rw [Nat.mod_eq_of_lt hs] at x3
      rw [← x3]
      rw [← e529,← e528,← e527,← e526,← e525,← e524]
      rfl
     ·rw [← h4,← e522,show n520=n503+1 by (have:=e519;rw [hi,wri (by omega)] at this;omega)]
    | false =>
     obtain ⟨v519,e519⟩:∃v,(IntKind.i64.wrap (i+(1:Int)))=v:=⟨_,rfl⟩
     refine .inr ⟨⟨v516,v519⟩,Or.inr (Or.inr (Or.inr (⟨v501,n503,b504,v507,v509,v511,v512,v513,v515,v516,v517,v519,e501,e507,e509,e511,e512,e513,e515,e516,e517,e519,h502,s505,s506,h508,h510,s514,h518,rfl,rfl,trivial⟩))),?_,?_⟩
     all_goals (have dh502:=of_decide_eq_true (e501.trans h502);have dh508:=ne_of_beq_false (e507.trans h508);have dh510:=of_decide_eq_false (e509.trans h510);have dh518:=of_decide_eq_false (e517.trans h518);have hnk:n503=k:=(by omega);subst hnk;have hb:=s506;have hnb:¬ badB n503 b504:=(by unfold badB;omega);have x1:v512=((b504.toNat%128:Nat):Int):=(by rw [← e512,← e511,and8,wu64];omega);have x2:v513=((7*n503:Nat):Int):=(by rw [← e513,hi,wri (by omega)];omega);have x3:v516=((c+2 ^ (7*n503)*(b504.toNat%128):Nat):Int):=(by rw [← e516,← e515,x1,x2,hc];exact rd_or hJ hnb);have x4:v519=((n503+1:Nat):Int):=(by rw [← e519,hi,wri (by omega)];omega);have hbl:=b504.toNat_lt)
     ·show (10 - v519).toNat<(10 - i).toNat
      omega
     ·exact ⟨n503+1,_,x4,(by rw [x3,show b504.toNat%128=b504.toNat - 128 by omega]),qX hJ hb hnb (by omega)⟩
 | false =>
  exfalso
  have dh502:=of_decide_eq_false (e501.trans h502)
  have hz:=zno hJ (by split at h2<;>omega)
  rw [hz] at hd
  cases hd
structure wrB_T where
 code:Int
 i:Int
def zD:List Atom:=[.sl 0 (.o (.c (.p 0 0))),.sl 3 (.o (.c (.h 5000))),.sl 6 (.o (.c (.p 0 0))),.sl 7 (.o (.c (.k (.bool false)))),.sl 8 (.o (.c (.p 0 0))),.sl 9 (.o (.c (.p 0 0))),.sl 10 (.o (.c (.p 0 0))),.sl 11 (.o (.c (.h 0))),.sl 12 (.o (.c (.h 1))),.sl 13 (.o (.c (.h 2))),.sl 14 (.o (.c (.h 3))),.bx 0 62 [.h 0,.k (.bool false)]]
def wrB_S:LoopS:=⟨5,[.sl 0 (.o (.c (.p 0 0))),.sl 3 (.o (.c (.k (.int .u64 0)))),.sl 6 (.o (.c (.p 0 0))),.sl 7 (.o (.c (.k (.bool false)))),.sl 8 (.o (.c (.p 0 0))),.sl 9 (.o (.c (.p 0 0))),.sl 10 (.o (.c (.p 0 0))),.sl 11 (.o (.c (.h 0))),.sl 12 (.o (.c (.h 1))),.sl 13 (.o (.c (.h 2))),.sl 14 (.o (.c (.k (.int .i64 0)))),.bx 0 62 [.h 0,.k (.bool false)]],(.x 0),[.sl 0 (.o (.c (.p 0 0))),.sl 6 (.o (.c (.p 0 0))),.sl 7 (.o (.c (.k (.bool false)))),.sl 8 (.o (.c (.p 0 0))),.sl 9 (.o (.c (.p 0 0))),.sl 10 (.o (.c (.p 0 0))),.sl 11 (.o (.c (.h 0))),.sl 12 (.o (.c (.h 1))),.sl 13 (.o (.c (.h 2))),.bx 0 62 [.h 0,.k (.bool false)]]⟩
theorem zoV {w0:World} (l:(List UInt8)) (v1:Int) (v2:Int) (code:Int) (i:Int) (v501:Bool) (n503:Nat) (b504:UInt8) (v507:Bool) (v509:Bool) (e501:(decide (i<v2))=v501) (e507:((i == (9:Int)))=v507) (e509:(decide ((b504.toNat:Int) > (1:Int)))=v509) (h502:v501=true) (s505:i=(n503:Int)) (s506:(l:List UInt8)[n503]?=some b504) (h508:v507=true) (h510:v509=true) (F:Fact) (u0:F.c 0=pS l) (u1:F.c 1=pI v1) (u2:F.c 2=pI v2) (R:Frm) (hR:R.pm=⟨ntOf Tryz.prog 36,[0],[]⟩):Goes (KN w0) Tryz.prog R (lp Tryz.prog 36 0) (FL [pS l,pI v1,pI v2,pI i] [] [(5000,pV (.int .u64 code))]) zD (.x 0) F wrB_S.out:=
 goes (x:=(.x 0)) (y:=(.x 0)) (Fb:=FL [pS l,pI v1,pI v2,pI i,pB v501,pV (.int .u8 (b504.toNat:Int)),pB v507,pB v509] [] [(5000,pV (.int .u64 code))]) (stb:=zD) (tl:=[.sl 0 (.o (.c (.p 0 0))),.sl 6 (.o (.c (.p 0 0))),.sl 7 (.o (.c (.k (.bool false)))),.sl 8 (.o (.c (.p 0 0))),.sl 9 (.o (.c (.p 0 0))),.sl 10 (.o (.c (.p 0 0))),.sl 11 (.o (.c (.h 0))),.sl 12 (.o (.c (.h 1))),.sl 13 (.o (.c (.h 2))),.bx 0 62 [.h 0,.k (.bool false)]]) (C:=((1005000,.bin .lss 3 (LF (.h 3)) (LF (.h 2)) (LF (.h 4))) ::
  (10004,.fb 4 true) ::
  (1005008,.op (.ix 9) [LF (.h 0),LF (.h 3)] [] (LF (.h 5))) ::
  (1005011,.bin .eql 3 (LF (.h 3)) (LF (.k (.int .i64 9))) (LF (.h 6))) ::
  (10006,.fb 6 true) ::
  (1005014,.bin .gtr 5 (LF (.h 5)) (LF (.k (.int .u8 1))) (LF (.h 7))) ::
  (10007,.fb 7 true) ::
  []:List (Nat×Ent))) (H:=.no) 5000 (zipA.imp ⟨z_c (fun _ _ _ h=>h),z_c (fun _ _ _ h=>h),z_c (fun _ _ _ h=>h),z_c (fun _ _ _ h=>h),z_c (fun _ _ _ h=>h),z_c (fun _ _ _ h=>h),z_c (fun _ _ _ h=>h),z_c (fun _ _ _ h=>h),z_c (fun _ _ _ h=>h),z_c (fun _ _ _ h=>h),z_c (fun _ _ _ h=>h),z_b ⟨fun _ _ _ h=>h,fun _ _ _ h=>h,trivial⟩,trivial⟩) (zf ⟨zb rfl,zb rfl,zb rfl,zb rfl,zb rfl,zb rfl,zb rfl,zb rfl,trivial⟩ trivial ⟨⟨rfl,zh⟩,trivial⟩) ⟨e_bin (za rfl) (za rfl) (za rfl) (r_cmp (congrArg some e501)),
  e_fb (show pV (.bool v501)=_ by rw [h502]),
  e_op2 (za rfl) (za rfl) (za rfl) (r_ix (by kernel_rfl) s505 s506),
  e_bin (za rfl) zd (za rfl) (r_cmp (congrArg some e507)),
  e_fb (show pV (.bool v507)=_ by rw [h508]),
  e_bin (za rfl) zd (za rfl) (r_cmp (congrArg some e509)),
  e_fb (show pV (.bool v509)=_ by rw [h510]),
  trivial⟩ mixed hR trivial (fun _ _ _ hs=>by cases hs) (by kernel_rfl:zz (KN w0) Tryz.prog _ .no ⟨ntOf Tryz.prog 36,[0],[]⟩ (lp Tryz.prog 36 0) 5000 zD (.x 0) [.sl 0 (.o (.c (.p 0 0))),.sl 6 (.o (.c (.p 0 0))),.sl 7 (.o (.c (.k (.bool false)))),.sl 8 (.o (.c (.p 0 0))),.sl 9 (.o (.c (.p 0 0))),.sl 10 (.o (.c (.p 0 0))),.sl 11 (.o (.c (.h 0))),.sl 12 (.o (.c (.h 1))),.sl 13 (.o (.c (.h 2))),.bx 0 62 [.h 0,.k (.bool false)]]=true) rfl (zipA.imp ⟨z_c (fun _ _ _ h=>h),z_c (fun _ _ _ h=>h),z_c (fun _ _ _ h=>h),z_c (fun _ _ _ h=>h),z_c (fun _ _ _ h=>h),z_c (fun _ _ _ h=>h),z_c (fun β v W h=>(zc u0 β v W).2 h),z_c (fun β v W h=>(zc u1 β v W).2 h),z_c (fun β v W h=>(zc u2 β v W).2 h),z_b ⟨fun β v W h=>(zc u0 β v W).2 h,fun _ _ _ h=>h,trivial⟩,trivial⟩)
theorem zoW {w0:World} (l:(List UInt8)) (v1:Int) (v2:Int) (code:Int) (i:Int) (v501:Bool) (n503:Nat) (b504:UInt8) (v507:Bool) (v509:Bool) (v511:Bool) (v513:Bool) (e501:(decide (i<v2))=v501) (e507:((i == (9:Int)))=v507) (e509:(decide ((b504.toNat:Int) > (1:Int)))=v509) (e511:(decide (i > (0:Int)))=v511) (e513:(((b504.toNat:Int) == (0:Int)))=v513) (h502:v501=true) (s505:i=(n503:Int)) (s506:(l:List UInt8)[n503]?=some b504) (h508:v507=true) (h510:v509=false) (h512:v511=true) (h514:v513=true) (F:Fact) (u0:F.c 0=pS l) (u1:F.c 1=pI v1) (u2:F.c 2=pI v2) (R:Frm) (hR:R.pm=⟨ntOf Tryz.prog 36,[0],[]⟩):Goes (KN w0) Tryz.prog R (lp Tryz.prog 36 0) (FL [pS l,pI v1,pI v2,pI i] [] [(5000,pV (.int .u64 code))]) zD (.x 0) F wrB_S.out:=
 goes (x:=(.x 0)) (y:=(.x 0)) (Fb:=FL [pS l,pI v1,pI v2,pI i,pB v501,pV (.int .u8 (b504.toNat:Int)),pB v507,pB v509,pB v511,pB v513] [] [(5000,pV (.int .u64 code))]) (stb:=zD) (tl:=[.sl 0 (.o (.c (.p 0 0))),.sl 6 (.o (.c (.p 0 0))),.sl 7 (.o (.c (.k (.bool false)))),.sl 8 (.o (.c (.p 0 0))),.sl 9 (.o (.c (.p 0 0))),.sl 10 (.o (.c (.p 0 0))),.sl 11 (.o (.c (.h 0))),.sl 12 (.o (.c (.h 1))),.sl 13 (.o (.c (.h 2))),.bx 0 62 [.h 0,.k (.bool false)]]) (C:=((1005000,.bin .lss 3 (LF (.h 3)) (LF (.h 2)) (LF (.h 4))) ::
  (10004,.fb 4 true) ::
  (1005008,.op (.ix 9) [LF (.h 0),LF (.h 3)] [] (LF (.h 5))) ::
  (1005011,.bin .eql 3 (LF (.h 3)) (LF (.k (.int .i64 9))) (LF (.h 6))) ::
  (10006,.fb 6 true) ::
  (1005014,.bin .gtr 5 (LF (.h 5)) (LF (.k (.int .u8 1))) (LF (.h 7))) ::
  (10007,.fb 7 false) ::
  (1005018,.bin .gtr 3 (LF (.h 3)) (LF (.k (.int .i64 0))) (LF (.h 8))) ::
  (10008,.fb 8 true) ::
  (1005021,.bin .eql 5 (LF (.h 5)) (LF (.k (.int .u8 0))) (LF (.h 9))) ::
  (10009,.fb 9 true) ::
  []:List (Nat×Ent))) (H:=.no) 5000 (zipA.imp ⟨z_c (fun _ _ _ h=>h),z_c (fun _ _ _ h=>h),z_c (fun _ _ _ h=>h),z_c (fun _ _ _ h=>h),z_c (fun _ _ _ h=>h),z_c (fun _ _ _ h=>h),z_c (fun _ _ _ h=>h),z_c (fun _ _ _ h=>h),z_c (fun _ _ _ h=>h),z_c (fun _ _ _ h=>h),z_c (fun _ _ _ h=>h),z_b ⟨fun _ _ _ h=>h,fun _ _ _ h=>h,trivial⟩,trivial⟩) (zf ⟨zb rfl,zb rfl,zb rfl,zb rfl,zb rfl,zb rfl,zb rfl,zb rfl,zb rfl,zb rfl,trivial⟩ trivial ⟨⟨rfl,zh⟩,trivial⟩) ⟨e_bin (za rfl) (za rfl) (za rfl) (r_cmp (congrArg some e501)),
  e_fb (show pV (.bool v501)=_ by rw [h502]),
  e_op2 (za rfl) (za rfl) (za rfl) (r_ix (by kernel_rfl) s505 s506),
  e_bin (za rfl) zd (za rfl) (r_cmp (congrArg some e507)),
  e_fb (show pV (.bool v507)=_ by rw [h508]),
  e_bin (za rfl) zd (za rfl) (r_cmp (congrArg some e509)),
  e_fb (show pV (.bool v509)=_ by rw [h510]),
  e_bin (za rfl) zd (za rfl) (r_cmp (congrArg some e511)),
  e_fb (show pV (.bool v511)=_ by rw [h512]),
  e_bin (za rfl) zd (za rfl) (r_cmp (congrArg some e513)),
  e_fb (show pV (.bool v513)=_ by rw [h514]),
  trivial⟩ mixed hR trivial (fun _ _ _ hs=>by cases hs) (by kernel_rfl:zz (KN w0) Tryz.prog _ .no ⟨ntOf Tryz.prog 36,[0],[]⟩ (lp Tryz.prog 36 0) 5000 zD (.x 0) [.sl 0 (.o (.c (.p 0 0))),.sl 6 (.o (.c (.p 0 0))),.sl 7 (.o (.c (.k (.bool false)))),.sl 8 (.o (.c (.p 0 0))),.sl 9 (.o (.c (.p 0 0))),.sl 10 (.o (.c (.p 0 0))),.sl 11 (.o (.c (.h 0))),.sl 12 (.o (.c (.h 1))),.sl 13 (.o (.c (.h 2))),.bx 0 62 [.h 0,.k (.bool false)]]=true) rfl (zipA.imp ⟨z_c (fun _ _ _ h=>h),z_c (fun _ _ _ h=>h),z_c (fun _ _ _ h=>h),z_c (fun _ _ _ h=>h),z_c (fun _ _ _ h=>h),z_c (fun _ _ _ h=>h),z_c (fun β v W h=>(zc u0 β v W).2 h),z_c (fun β v W h=>(zc u1 β v W).2 h),z_c (fun β v W h=>(zc u2 β v W).2 h),z_b ⟨fun β v W h=>(zc u0 β v W).2 h,fun _ _ _ h=>h,trivial⟩,trivial⟩)
theorem zoX {w0:World} (l:(List UInt8)) (v1:Int) (v2:Int) (code:Int) (i:Int) (v501:Bool) (n503:Nat) (b504:UInt8) (v507:Bool) (v509:Bool) (v511:Bool) (v513:Bool) (v515:Int) (v516:Int) (v517:Int) (v519:Int) (v520:Int) (v521:Bool) (v523:Int) (e501:(decide (i<v2))=v501) (e507:((i == (9:Int)))=v507) (e509:(decide ((b504.toNat:Int) > (1:Int)))=v509) (e511:(decide (i > (0:Int)))=v511) (e513:(((b504.toNat:Int) == (0:Int)))=v513) (e515:(IntKind.u8.wrap (BitVec.ofInt IntKind.u8.bits (b504.toNat:Int) &&& BitVec.ofInt IntKind.u8.bits (127:Int)).toNat)=v515) (e516:(IntKind.u64.wrap v515)=v516) (e517:(IntKind.i64.wrap ((7:Int)*i))=v517) (e519:(IntKind.u64.wrap (v516*2 ^ min (v517:Int).toNat IntKind.u64.bits))=v519) (e520:(IntKind.u64.wrap (BitVec.ofInt IntKind.u64.bits code ||| BitVec.ofInt IntKind.u64.bits v519).toNat)=v520) (e521:(decide ((b504.toNat:Int)<(128:Int)))=v521) (e523:(IntKind.i64.wrap (i+(1:Int)))=v523) (h502:v501=true) (s505:i=(n503:Int)) (s506:(l:List UInt8)[n503]?=some b504) (h508:v507=true) (h510:v509=false) (h512:v511=true) (h514:v513=false) (s518:0≤v517) (h522:v521=false) (code':Int) (i':Int) (q0:(v520)=code') (q1:(v523)=i') (R:Frm) (hR:R.pm=⟨ntOf Tryz.prog 36,[0],[]⟩):Goes (KN w0) Tryz.prog R (lp Tryz.prog 36 0) (FL [pS l,pI v1,pI v2,pI i] [] [(5000,pV (.int .u64 code))]) zD .n (FL [pS l,pI v1,pI v2,pI i'] [] [(5000,pV (.int .u64 code'))]) zD:=
 goes (x:=.n) (y:=.n) (Fb:=FL [pS l,pI v1,pI v2,pI i,pB v501,pV (.int .u8 (b504.toNat:Int)),pB v507,pB v509,pB v511,pB v513,pV (.int .u8 v515),pI v517,pB v521,pI v523] [] [(5000,pV (.int .u64 code)),(5001,pV (.int .u64 v516)),(5002,pV (.int .u64 v519)),(5003,pV (.int .u64 v520))]) (stb:=zD) (tl:=[.sl 0 (.o (.c (.p 0 0))),.sl 3 (.o (.c (.h 5003))),.sl 6 (.o (.c (.p 0 0))),.sl 7 (.o (.c (.k (.bool false)))),.sl 8 (.o (.c (.p 0 0))),.sl 9 (.o (.c (.p 0 0))),.sl 10 (.o (.c (.p 0 0))),.sl 11 (.o (.c (.h 0))),.sl 12 (.o (.c (.h 1))),.sl 13 (.o (.c (.h 2))),.sl 14 (.o (.c (.h 13))),.bx 0 62 [.h 0,.k (.bool false)]]) (C:=((1005000,.bin .lss 3 (LF (.h 3)) (LF (.h 2)) (LF (.h 4))) ::
  (10004,.fb 4 true) ::
  (1005008,.op (.ix 9) [LF (.h 0),LF (.h 3)] [] (LF (.h 5))) ::
  (1005011,.bin .eql 3 (LF (.h 3)) (LF (.k (.int .i64 9))) (LF (.h 6))) ::
  (10006,.fb 6 true) ::
  (1005014,.bin .gtr 5 (LF (.h 5)) (LF (.k (.int .u8 1))) (LF (.h 7))) ::
  (10007,.fb 7 false) ::
  (1005018,.bin .gtr 3 (LF (.h 3)) (LF (.k (.int .i64 0))) (LF (.h 8))) ::
  (10008,.fb 8 true) ::
  (1005021,.bin .eql 5 (LF (.h 5)) (LF (.k (.int .u8 0))) (LF (.h 9))) ::
  (10009,.fb 9 false) ::
  (1005026,.bin .and 5 (LF (.h 5)) (LF (.k (.int .u8 127))) (LF (.h 10))) ::
  (1005027,.op (.cv 5 72) [LF (.h 10)] [] (LF (.h 5001))) ::
  (1005029,.bin .mul 3 (LF (.k (.int .i64 7))) (LF (.h 3)) (LF (.h 11))) ::
  (1005030,.bin .shl 72 (LF (.h 5001)) (LF (.h 11)) (LF (.h 5002))) ::
  (1005031,.bin .or 72 (LF (.h 5000)) (LF (.h 5002)) (LF (.h 5003))) ::
  (1005034,.bin .lss 5 (LF (.h 5)) (LF (.k (.int .u8 128))) (LF (.h 12))) ::
  (10012,.fb 12 false) ::
  (1005035,.bin .add 3 (LF (.h 3)) (LF (.k (.int .i64 1))) (LF (.h 13))) ::
  []:List (Nat×Ent))) (H:=.no) 5000 (zipA.imp ⟨z_c (fun _ _ _ h=>h),z_c (fun _ _ _ h=>h),z_c (fun _ _ _ h=>h),z_c (fun _ _ _ h=>h),z_c (fun _ _ _ h=>h),z_c (fun _ _ _ h=>h),z_c (fun _ _ _ h=>h),z_c (fun _ _ _ h=>h),z_c (fun _ _ _ h=>h),z_c (fun _ _ _ h=>h),z_c (fun _ _ _ h=>h),z_b ⟨fun _ _ _ h=>h,fun _ _ _ h=>h,trivial⟩,trivial⟩) (zf ⟨zb rfl,zb rfl,zb rfl,zb rfl,zb rfl,zb rfl,zb rfl,zb rfl,zb rfl,zb rfl,zb rfl,zb rfl,zb rfl,zb rfl,trivial⟩ trivial ⟨⟨rfl,zh⟩,⟨rfl,zh⟩,⟨rfl,zh⟩,⟨rfl,zh⟩,trivial⟩) ⟨e_bin (za rfl) (za rfl) (za rfl) (r_cmp (congrArg some e501)),
  e_fb (show pV (.bool v501)=_ by rw [h502]),
  e_op2 (za rfl) (za rfl) (za rfl) (r_ix (by kernel_rfl) s505 s506),
  e_bin (za rfl) zd (za rfl) (r_cmp (congrArg some e507)),
  e_fb (show pV (.bool v507)=_ by rw [h508]),
  e_bin (za rfl) zd (za rfl) (r_cmp (congrArg some e509)),
  e_fb (show pV (.bool v509)=_ by rw [h510]),
  e_bin (za rfl) zd (za rfl) (r_cmp (congrArg some e511)),
  e_fb (show pV (.bool v511)=_ by rw [h512]),
  e_bin (za rfl) zd (za rfl) (r_cmp (congrArg some e513)),
  e_fb (show pV (.bool v513)=_ by rw [h514]),
  e_bin (za rfl) zd (za rfl) (zL (congrArg some e515)),
  e_op1 (za rfl) (za rfl) (fun W=>by rw [← e516];exact r_cvi (by kernel_rfl) (by kernel_rfl) W),
  e_bin zd (za rfl) (za rfl) (r_ar (congrArg some e517)),
  e_bin (za rfl) (za rfl) (za rfl) (fun W X Y=>by rw [← e519];exact r_shl s518 W X Y),
  e_bin (za rfl) (za rfl) (za rfl) (zL (congrArg some e520)),
  e_bin (za rfl) zd (za rfl) (r_cmp (congrArg some e521)),
  e_fb (show pV (.bool v521)=_ by rw [h522]),
  e_bin (za rfl) zd (za rfl) (r_ar (congrArg some e523)),
  trivial⟩ mixed hR trivial (fun _ _ _ hs=>by cases hs) (by kernel_rfl:zz (KN w0) Tryz.prog _ .no ⟨ntOf Tryz.prog 36,[0],[]⟩ (lp Tryz.prog 36 0) 5000 zD .n [.sl 0 (.o (.c (.p 0 0))),.sl 3 (.o (.c (.h 5003))),.sl 6 (.o (.c (.p 0 0))),.sl 7 (.o (.c (.k (.bool false)))),.sl 8 (.o (.c (.p 0 0))),.sl 9 (.o (.c (.p 0 0))),.sl 10 (.o (.c (.p 0 0))),.sl 11 (.o (.c (.h 0))),.sl 12 (.o (.c (.h 1))),.sl 13 (.o (.c (.h 2))),.sl 14 (.o (.c (.h 13))),.bx 0 62 [.h 0,.k (.bool false)]]=true) rfl (zipA.imp ⟨z_c (fun _ _ _ h=>h),z_c (fun β v W h=>(zc rfl β v W).2 (by rw [← q0];exact h)),z_c (fun _ _ _ h=>h),z_c (fun _ _ _ h=>h),z_c (fun _ _ _ h=>h),z_c (fun _ _ _ h=>h),z_c (fun _ _ _ h=>h),z_c (fun _ _ _ h=>h),z_c (fun _ _ _ h=>h),z_c (fun _ _ _ h=>h),z_c (fun β v W h=>(zc rfl β v W).2 (by rw [← q1];exact h)),z_b ⟨fun _ _ _ h=>h,fun _ _ _ h=>h,trivial⟩,trivial⟩)
theorem zoY {w0:World} (l:(List UInt8)) (v1:Int) (v2:Int) (code:Int) (i:Int) (v501:Bool) (n503:Nat) (b504:UInt8) (v507:Bool) (v509:Bool) (v511:Bool) (v513:Int) (v514:Int) (v515:Int) (v517:Int) (v518:Int) (v519:Bool) (v521:Int) (e501:(decide (i<v2))=v501) (e507:((i == (9:Int)))=v507) (e509:(decide ((b504.toNat:Int) > (1:Int)))=v509) (e511:(decide (i > (0:Int)))=v511) (e513:(IntKind.u8.wrap (BitVec.ofInt IntKind.u8.bits (b504.toNat:Int) &&& BitVec.ofInt IntKind.u8.bits (127:Int)).toNat)=v513) (e514:(IntKind.u64.wrap v513)=v514) (e515:(IntKind.i64.wrap ((7:Int)*i))=v515) (e517:(IntKind.u64.wrap (v514*2 ^ min (v515:Int).toNat IntKind.u64.bits))=v517) (e518:(IntKind.u64.wrap (BitVec.ofInt IntKind.u64.bits code ||| BitVec.ofInt IntKind.u64.bits v517).toNat)=v518) (e519:(decide ((b504.toNat:Int)<(128:Int)))=v519) (e521:(IntKind.i64.wrap (i+(1:Int)))=v521) (h502:v501=true) (s505:i=(n503:Int)) (s506:(l:List UInt8)[n503]?=some b504) (h508:v507=true) (h510:v509=false) (h512:v511=false) (s516:0≤v515) (h520:v519=false) (code':Int) (i':Int) (q0:(v518)=code') (q1:(v521)=i') (R:Frm) (hR:R.pm=⟨ntOf Tryz.prog 36,[0],[]⟩):Goes (KN w0) Tryz.prog R (lp Tryz.prog 36 0) (FL [pS l,pI v1,pI v2,pI i] [] [(5000,pV (.int .u64 code))]) zD .n (FL [pS l,pI v1,pI v2,pI i'] [] [(5000,pV (.int .u64 code'))]) zD:=
 goes (x:=.n) (y:=.n) (Fb:=FL [pS l,pI v1,pI v2,pI i,pB v501,pV (.int .u8 (b504.toNat:Int)),pB v507,pB v509,pB v511,pV (.int .u8 v513),pI v515,pB v519,pI v521] [] [(5000,pV (.int .u64 code)),(5001,pV (.int .u64 v514)),(5002,pV (.int .u64 v517)),(5003,pV (.int .u64 v518))]) (stb:=zD) (tl:=[.sl 0 (.o (.c (.p 0 0))),.sl 3 (.o (.c (.h 5003))),.sl 6 (.o (.c (.p 0 0))),.sl 7 (.o (.c (.k (.bool false)))),.sl 8 (.o (.c (.p 0 0))),.sl 9 (.o (.c (.p 0 0))),.sl 10 (.o (.c (.p 0 0))),.sl 11 (.o (.c (.h 0))),.sl 12 (.o (.c (.h 1))),.sl 13 (.o (.c (.h 2))),.sl 14 (.o (.c (.h 12))),.bx 0 62 [.h 0,.k (.bool false)]]) (C:=((1005000,.bin .lss 3 (LF (.h 3)) (LF (.h 2)) (LF (.h 4))) ::
  (10004,.fb 4 true) ::
  (1005008,.op (.ix 9) [LF (.h 0),LF (.h 3)] [] (LF (.h 5))) ::
  (1005011,.bin .eql 3 (LF (.h 3)) (LF (.k (.int .i64 9))) (LF (.h 6))) ::
  (10006,.fb 6 true) ::
  (1005014,.bin .gtr 5 (LF (.h 5)) (LF (.k (.int .u8 1))) (LF (.h 7))) ::
  (10007,.fb 7 false) ::
  (1005018,.bin .gtr 3 (LF (.h 3)) (LF (.k (.int .i64 0))) (LF (.h 8))) ::
  (10008,.fb 8 false) ::
  (1005026,.bin .and 5 (LF (.h 5)) (LF (.k (.int .u8 127))) (LF (.h 9))) ::
  (1005027,.op (.cv 5 72) [LF (.h 9)] [] (LF (.h 5001))) ::
  (1005029,.bin .mul 3 (LF (.k (.int .i64 7))) (LF (.h 3)) (LF (.h 10))) ::
  (1005030,.bin .shl 72 (LF (.h 5001)) (LF (.h 10)) (LF (.h 5002))) ::
  (1005031,.bin .or 72 (LF (.h 5000)) (LF (.h 5002)) (LF (.h 5003))) ::
  (1005034,.bin .lss 5 (LF (.h 5)) (LF (.k (.int .u8 128))) (LF (.h 11))) ::
  (10011,.fb 11 false) ::
  (1005035,.bin .add 3 (LF (.h 3)) (LF (.k (.int .i64 1))) (LF (.h 12))) ::
  []:List (Nat×Ent))) (H:=.no) 5000 (zipA.imp ⟨z_c (fun _ _ _ h=>h),z_c (fun _ _ _ h=>h),z_c (fun _ _ _ h=>h),z_c (fun _ _ _ h=>h),z_c (fun _ _ _ h=>h),z_c (fun _ _ _ h=>h),z_c (fun _ _ _ h=>h),z_c (fun _ _ _ h=>h),z_c (fun _ _ _ h=>h),z_c (fun _ _ _ h=>h),z_c (fun _ _ _ h=>h),z_b ⟨fun _ _ _ h=>h,fun _ _ _ h=>h,trivial⟩,trivial⟩) (zf ⟨zb rfl,zb rfl,zb rfl,zb rfl,zb rfl,zb rfl,zb rfl,zb rfl,zb rfl,zb rfl,zb rfl,zb rfl,zb rfl,trivial⟩ trivial ⟨⟨rfl,zh⟩,⟨rfl,zh⟩,⟨rfl,zh⟩,⟨rfl,zh⟩,trivial⟩) ⟨e_bin (za rfl) (za rfl) (za rfl) (r_cmp (congrArg some e501)),
  e_fb (show pV (.bool v501)=_ by rw [h502]),
  e_op2 (za rfl) (za rfl) (za rfl) (r_ix (by kernel_rfl) s505 s506),
  e_bin (za rfl) zd (za rfl) (r_cmp (congrArg some e507)),
  e_fb (show pV (.bool v507)=_ by rw [h508]),
  e_bin (za rfl) zd (za rfl) (r_cmp (congrArg some e509)),
  e_fb (show pV (.bool v509)=_ by rw [h510]),
  e_bin (za rfl) zd (za rfl) (r_cmp (congrArg some e511)),
  e_fb (show pV (.bool v511)=_ by rw [h512]),
  e_bin (za rfl) zd (za rfl) (zL (congrArg some e513)),
  e_op1 (za rfl) (za rfl) (fun W=>by rw [← e514];exact r_cvi (by kernel_rfl) (by kernel_rfl) W),
  e_bin zd (za rfl) (za rfl) (r_ar (congrArg some e515)),
  e_bin (za rfl) (za rfl) (za rfl) (fun W X Y=>by rw [← e517];exact r_shl s516 W X Y),
  e_bin (za rfl) (za rfl) (za rfl) (zL (congrArg some e518)),
  e_bin (za rfl) zd (za rfl) (r_cmp (congrArg some e519)),
  e_fb (show pV (.bool v519)=_ by rw [h520]),
  e_bin (za rfl) zd (za rfl) (r_ar (congrArg some e521)),
  trivial⟩ mixed hR trivial (fun _ _ _ hs=>by cases hs) (by kernel_rfl:zz (KN w0) Tryz.prog _ .no ⟨ntOf Tryz.prog 36,[0],[]⟩ (lp Tryz.prog 36 0) 5000 zD .n [.sl 0 (.o (.c (.p 0 0))),.sl 3 (.o (.c (.h 5003))),.sl 6 (.o (.c (.p 0 0))),.sl 7 (.o (.c (.k (.bool false)))),.sl 8 (.o (.c (.p 0 0))),.sl 9 (.o (.c (.p 0 0))),.sl 10 (.o (.c (.p 0 0))),.sl 11 (.o (.c (.h 0))),.sl 12 (.o (.c (.h 1))),.sl 13 (.o (.c (.h 2))),.sl 14 (.o (.c (.h 12))),.bx 0 62 [.h 0,.k (.bool false)]]=true) rfl (zipA.imp ⟨z_c (fun _ _ _ h=>h),z_c (fun β v W h=>(zc rfl β v W).2 (by rw [← q0];exact h)),z_c (fun _ _ _ h=>h),z_c (fun _ _ _ h=>h),z_c (fun _ _ _ h=>h),z_c (fun _ _ _ h=>h),z_c (fun _ _ _ h=>h),z_c (fun _ _ _ h=>h),z_c (fun _ _ _ h=>h),z_c (fun _ _ _ h=>h),z_c (fun β v W h=>(zc rfl β v W).2 (by rw [← q1];exact h)),z_b ⟨fun _ _ _ h=>h,fun _ _ _ h=>h,trivial⟩,trivial⟩)
theorem zoZ {w0:World} (l:(List UInt8)) (v1:Int) (v2:Int) (code:Int) (i:Int) (v501:Bool) (n503:Nat) (b504:UInt8) (v507:Bool) (v509:Bool) (v511:Bool) (e501:(decide (i<v2))=v501) (e507:((i == (9:Int)))=v507) (e509:(decide (i > (0:Int)))=v509) (e511:(((b504.toNat:Int) == (0:Int)))=v511) (h502:v501=true) (s505:i=(n503:Int)) (s506:(l:List UInt8)[n503]?=some b504) (h508:v507=false) (h510:v509=true) (h512:v511=true) (F:Fact) (u0:F.c 0=pS l) (u1:F.c 1=pI v1) (u2:F.c 2=pI v2) (R:Frm) (hR:R.pm=⟨ntOf Tryz.prog 36,[0],[]⟩):Goes (KN w0) Tryz.prog R (lp Tryz.prog 36 0) (FL [pS l,pI v1,pI v2,pI i] [] [(5000,pV (.int .u64 code))]) zD (.x 0) F wrB_S.out:=
 goes (x:=(.x 0)) (y:=(.x 0)) (Fb:=FL [pS l,pI v1,pI v2,pI i,pB v501,pV (.int .u8 (b504.toNat:Int)),pB v507,pB v509,pB v511] [] [(5000,pV (.int .u64 code))]) (stb:=zD) (tl:=[.sl 0 (.o (.c (.p 0 0))),.sl 6 (.o (.c (.p 0 0))),.sl 7 (.o (.c (.k (.bool false)))),.sl 8 (.o (.c (.p 0 0))),.sl 9 (.o (.c (.p 0 0))),.sl 10 (.o (.c (.p 0 0))),.sl 11 (.o (.c (.h 0))),.sl 12 (.o (.c (.h 1))),.sl 13 (.o (.c (.h 2))),.bx 0 62 [.h 0,.k (.bool false)]]) (C:=((1005000,.bin .lss 3 (LF (.h 3)) (LF (.h 2)) (LF (.h 4))) ::
  (10004,.fb 4 true) ::
  (1005008,.op (.ix 9) [LF (.h 0),LF (.h 3)] [] (LF (.h 5))) ::
  (1005011,.bin .eql 3 (LF (.h 3)) (LF (.k (.int .i64 9))) (LF (.h 6))) ::
  (10006,.fb 6 false) ::
  (1005018,.bin .gtr 3 (LF (.h 3)) (LF (.k (.int .i64 0))) (LF (.h 7))) ::
  (10007,.fb 7 true) ::
  (1005021,.bin .eql 5 (LF (.h 5)) (LF (.k (.int .u8 0))) (LF (.h 8))) ::
  (10008,.fb 8 true) ::
  []:List (Nat×Ent))) (H:=.no) 5000 (zipA.imp ⟨z_c (fun _ _ _ h=>h),z_c (fun _ _ _ h=>h),z_c (fun _ _ _ h=>h),z_c (fun _ _ _ h=>h),z_c (fun _ _ _ h=>h),z_c (fun _ _ _ h=>h),z_c (fun _ _ _ h=>h),z_c (fun _ _ _ h=>h),z_c (fun _ _ _ h=>h),z_c (fun _ _ _ h=>h),z_c (fun _ _ _ h=>h),z_b ⟨fun _ _ _ h=>h,fun _ _ _ h=>h,trivial⟩,trivial⟩) (zf ⟨zb rfl,zb rfl,zb rfl,zb rfl,zb rfl,zb rfl,zb rfl,zb rfl,zb rfl,trivial⟩ trivial ⟨⟨rfl,zh⟩,trivial⟩) ⟨e_bin (za rfl) (za rfl) (za rfl) (r_cmp (congrArg some e501)),
  e_fb (show pV (.bool v501)=_ by rw [h502]),
  e_op2 (za rfl) (za rfl) (za rfl) (r_ix (by kernel_rfl) s505 s506),
  e_bin (za rfl) zd (za rfl) (r_cmp (congrArg some e507)),
  e_fb (show pV (.bool v507)=_ by rw [h508]),
  e_bin (za rfl) zd (za rfl) (r_cmp (congrArg some e509)),
  e_fb (show pV (.bool v509)=_ by rw [h510]),
  e_bin (za rfl) zd (za rfl) (r_cmp (congrArg some e511)),
  e_fb (show pV (.bool v511)=_ by rw [h512]),
  trivial⟩ mixed hR trivial (fun _ _ _ hs=>by cases hs) (by kernel_rfl:zz (KN w0) Tryz.prog _ .no ⟨ntOf Tryz.prog 36,[0],[]⟩ (lp Tryz.prog 36 0) 5000 zD (.x 0) [.sl 0 (.o (.c (.p 0 0))),.sl 6 (.o (.c (.p 0 0))),.sl 7 (.o (.c (.k (.bool false)))),.sl 8 (.o (.c (.p 0 0))),.sl 9 (.o (.c (.p 0 0))),.sl 10 (.o (.c (.p 0 0))),.sl 11 (.o (.c (.h 0))),.sl 12 (.o (.c (.h 1))),.sl 13 (.o (.c (.h 2))),.bx 0 62 [.h 0,.k (.bool false)]]=true) rfl (zipA.imp ⟨z_c (fun _ _ _ h=>h),z_c (fun _ _ _ h=>h),z_c (fun _ _ _ h=>h),z_c (fun _ _ _ h=>h),z_c (fun _ _ _ h=>h),z_c (fun _ _ _ h=>h),z_c (fun β v W h=>(zc u0 β v W).2 h),z_c (fun β v W h=>(zc u1 β v W).2 h),z_c (fun β v W h=>(zc u2 β v W).2 h),z_b ⟨fun β v W h=>(zc u0 β v W).2 h,fun _ _ _ h=>h,trivial⟩,trivial⟩)
theorem zo0 {w0:World} (l:(List UInt8)) (v1:Int) (v2:Int) (code:Int) (i:Int) (v501:Bool) (n503:Nat) (b504:UInt8) (v507:Bool) (v509:Bool) (v511:Bool) (v513:Int) (v514:Int) (v515:Int) (v517:Int) (v518:Int) (v519:Bool) (v521:Int) (e501:(decide (i<v2))=v501) (e507:((i == (9:Int)))=v507) (e509:(decide (i > (0:Int)))=v509) (e511:(((b504.toNat:Int) == (0:Int)))=v511) (e513:(IntKind.u8.wrap (BitVec.ofInt IntKind.u8.bits (b504.toNat:Int) &&& BitVec.ofInt IntKind.u8.bits (127:Int)).toNat)=v513) (e514:(IntKind.u64.wrap v513)=v514) (e515:(IntKind.i64.wrap ((7:Int)*i))=v515) (e517:(IntKind.u64.wrap (v514*2 ^ min (v515:Int).toNat IntKind.u64.bits))=v517) (e518:(IntKind.u64.wrap (BitVec.ofInt IntKind.u64.bits code ||| BitVec.ofInt IntKind.u64.bits v517).toNat)=v518) (e519:(decide ((b504.toNat:Int)<(128:Int)))=v519) (e521:(IntKind.i64.wrap (i+(1:Int)))=v521) (h502:v501=true) (s505:i=(n503:Int)) (s506:(l:List UInt8)[n503]?=some b504) (h508:v507=false) (h510:v509=true) (h512:v511=false) (s516:0≤v515) (h520:v519=false) (code':Int) (i':Int) (q0:(v518)=code') (q1:(v521)=i') (R:Frm) (hR:R.pm=⟨ntOf Tryz.prog 36,[0],[]⟩):Goes (KN w0) Tryz.prog R (lp Tryz.prog 36 0) (FL [pS l,pI v1,pI v2,pI i] [] [(5000,pV (.int .u64 code))]) zD .n (FL [pS l,pI v1,pI v2,pI i'] [] [(5000,pV (.int .u64 code'))]) zD:=
 goes (x:=.n) (y:=.n) (Fb:=FL [pS l,pI v1,pI v2,pI i,pB v501,pV (.int .u8 (b504.toNat:Int)),pB v507,pB v509,pB v511,pV (.int .u8 v513),pI v515,pB v519,pI v521] [] [(5000,pV (.int .u64 code)),(5001,pV (.int .u64 v514)),(5002,pV (.int .u64 v517)),(5003,pV (.int .u64 v518))]) (stb:=zD) (tl:=[.sl 0 (.o (.c (.p 0 0))),.sl 3 (.o (.c (.h 5003))),.sl 6 (.o (.c (.p 0 0))),.sl 7 (.o (.c (.k (.bool false)))),.sl 8 (.o (.c (.p 0 0))),.sl 9 (.o (.c (.p 0 0))),.sl 10 (.o (.c (.p 0 0))),.sl 11 (.o (.c (.h 0))),.sl 12 (.o (.c (.h 1))),.sl 13 (.o (.c (.h 2))),.sl 14 (.o (.c (.h 12))),.bx 0 62 [.h 0,.k (.bool false)]]) (C:=((1005000,.bin .lss 3 (LF (.h 3)) (LF (.h 2)) (LF (.h 4))) ::
  (10004,.fb 4 true) ::
  (1005008,.op (.ix 9) [LF (.h 0),LF (.h 3)] [] (LF (.h 5))) ::
  (1005011,.bin .eql 3 (LF (.h 3)) (LF (.k (.int .i64 9))) (LF (.h 6))) ::
  (10006,.fb 6 false) ::
  (1005018,.bin .gtr 3 (LF (.h 3)) (LF (.k (.int .i64 0))) (LF (.h 7))) ::
  (10007,.fb 7 true) ::
  (1005021,.bin .eql 5 (LF (.h 5)) (LF (.k (.int .u8 0))) (LF (.h 8))) ::
  (10008,.fb 8 false) ::
  (1005026,.bin .and 5 (LF (.h 5)) (LF (.k (.int .u8 127))) (LF (.h 9))) ::
  (1005027,.op (.cv 5 72) [LF (.h 9)] [] (LF (.h 5001))) ::
  (1005029,.bin .mul 3 (LF (.k (.int .i64 7))) (LF (.h 3)) (LF (.h 10))) ::
  (1005030,.bin .shl 72 (LF (.h 5001)) (LF (.h 10)) (LF (.h 5002))) ::
  (1005031,.bin .or 72 (LF (.h 5000)) (LF (.h 5002)) (LF (.h 5003))) ::
  (1005034,.bin .lss 5 (LF (.h 5)) (LF (.k (.int .u8 128))) (LF (.h 11))) ::
  (10011,.fb 11 false) ::
  (1005035,.bin .add 3 (LF (.h 3)) (LF (.k (.int .i64 1))) (LF (.h 12))) ::
  []:List (Nat×Ent))) (H:=.no) 5000 (zipA.imp ⟨z_c (fun _ _ _ h=>h),z_c (fun _ _ _ h=>h),z_c (fun _ _ _ h=>h),z_c (fun _ _ _ h=>h),z_c (fun _ _ _ h=>h),z_c (fun _ _ _ h=>h),z_c (fun _ _ _ h=>h),z_c (fun _ _ _ h=>h),z_c (fun _ _ _ h=>h),z_c (fun _ _ _ h=>h),z_c (fun _ _ _ h=>h),z_b ⟨fun _ _ _ h=>h,fun _ _ _ h=>h,trivial⟩,trivial⟩) (zf ⟨zb rfl,zb rfl,zb rfl,zb rfl,zb rfl,zb rfl,zb rfl,zb rfl,zb rfl,zb rfl,zb rfl,zb rfl,zb rfl,trivial⟩ trivial ⟨⟨rfl,zh⟩,⟨rfl,zh⟩,⟨rfl,zh⟩,⟨rfl,zh⟩,trivial⟩) ⟨e_bin (za rfl) (za rfl) (za rfl) (r_cmp (congrArg some e501)),
  e_fb (show pV (.bool v501)=_ by rw [h502]),
  e_op2 (za rfl) (za rfl) (za rfl) (r_ix (by kernel_rfl) s505 s506),
  e_bin (za rfl) zd (za rfl) (r_cmp (congrArg some e507)),
  e_fb (show pV (.bool v507)=_ by rw [h508]),
  e_bin (za rfl) zd (za rfl) (r_cmp (congrArg some e509)),
  e_fb (show pV (.bool v509)=_ by rw [h510]),
  e_bin (za rfl) zd (za rfl) (r_cmp (congrArg some e511)),
  e_fb (show pV (.bool v511)=_ by rw [h512]),
  e_bin (za rfl) zd (za rfl) (zL (congrArg some e513)),
  e_op1 (za rfl) (za rfl) (fun W=>by rw [← e514];exact r_cvi (by kernel_rfl) (by kernel_rfl) W),
  e_bin zd (za rfl) (za rfl) (r_ar (congrArg some e515)),
  e_bin (za rfl) (za rfl) (za rfl) (fun W X Y=>by rw [← e517];exact r_shl s516 W X Y),
  e_bin (za rfl) (za rfl) (za rfl) (zL (congrArg some e518)),
  e_bin (za rfl) zd (za rfl) (r_cmp (congrArg some e519)),
  e_fb (show pV (.bool v519)=_ by rw [h520]),
  e_bin (za rfl) zd (za rfl) (r_ar (congrArg some e521)),
  trivial⟩ mixed hR trivial (fun _ _ _ hs=>by cases hs) (by kernel_rfl:zz (KN w0) Tryz.prog _ .no ⟨ntOf Tryz.prog 36,[0],[]⟩ (lp Tryz.prog 36 0) 5000 zD .n [.sl 0 (.o (.c (.p 0 0))),.sl 3 (.o (.c (.h 5003))),.sl 6 (.o (.c (.p 0 0))),.sl 7 (.o (.c (.k (.bool false)))),.sl 8 (.o (.c (.p 0 0))),.sl 9 (.o (.c (.p 0 0))),.sl 10 (.o (.c (.p 0 0))),.sl 11 (.o (.c (.h 0))),.sl 12 (.o (.c (.h 1))),.sl 13 (.o (.c (.h 2))),.sl 14 (.o (.c (.h 12))),.bx 0 62 [.h 0,.k (.bool false)]]=true) rfl (zipA.imp ⟨z_c (fun _ _ _ h=>h),z_c (fun β v W h=>(zc rfl β v W).2 (by rw [← q0];exact h)),z_c (fun _ _ _ h=>h),z_c (fun _ _ _ h=>h),z_c (fun _ _ _ h=>h),z_c (fun _ _ _ h=>h),z_c (fun _ _ _ h=>h),z_c (fun _ _ _ h=>h),z_c (fun _ _ _ h=>h),z_c (fun _ _ _ h=>h),z_c (fun β v W h=>(zc rfl β v W).2 (by rw [← q1];exact h)),z_b ⟨fun _ _ _ h=>h,fun _ _ _ h=>h,trivial⟩,trivial⟩)
theorem znX {w0:World} (l:(List UInt8)) (v1:Int) (v2:Int) (code:Int) (i:Int) (v501:Bool) (n503:Nat) (b504:UInt8) (v507:Bool) (v509:Bool) (v511:Int) (v512:Int) (v513:Int) (v515:Int) (v516:Int) (v517:Bool) (v519:Int) (e501:(decide (i<v2))=v501) (e507:((i == (9:Int)))=v507) (e509:(decide (i > (0:Int)))=v509) (e511:(IntKind.u8.wrap (BitVec.ofInt IntKind.u8.bits (b504.toNat:Int) &&& BitVec.ofInt IntKind.u8.bits (127:Int)).toNat)=v511) (e512:(IntKind.u64.wrap v511)=v512) (e513:(IntKind.i64.wrap ((7:Int)*i))=v513) (e515:(IntKind.u64.wrap (v512*2 ^ min (v513:Int).toNat IntKind.u64.bits))=v515) (e516:(IntKind.u64.wrap (BitVec.ofInt IntKind.u64.bits code ||| BitVec.ofInt IntKind.u64.bits v515).toNat)=v516) (e517:(decide ((b504.toNat:Int)<(128:Int)))=v517) (e519:(IntKind.i64.wrap (i+(1:Int)))=v519) (h502:v501=true) (s505:i=(n503:Int)) (s506:(l:List UInt8)[n503]?=some b504) (h508:v507=false) (h510:v509=false) (s514:0≤v513) (h518:v517=false) (code':Int) (i':Int) (q0:(v516)=code') (q1:(v519)=i') (R:Frm) (hR:R.pm=⟨ntOf Tryz.prog 36,[0],[]⟩):Goes (KN w0) Tryz.prog R (lp Tryz.prog 36 0) (FL [pS l,pI v1,pI v2,pI i] [] [(5000,pV (.int .u64 code))]) zD .n (FL [pS l,pI v1,pI v2,pI i'] [] [(5000,pV (.int .u64 code'))]) zD:=
 goes (x:=.n) (y:=.n) (Fb:=FL [pS l,pI v1,pI v2,pI i,pB v501,pV (.int .u8 (b504.toNat:Int)),pB v507,pB v509,pV (.int .u8 v511),pI v513,pB v517,pI v519] [] [(5000,pV (.int .u64 code)),(5001,pV (.int .u64 v512)),(5002,pV (.int .u64 v515)),(5003,pV (.int .u64 v516))]) (stb:=zD) (tl:=[.sl 0 (.o (.c (.p 0 0))),.sl 3 (.o (.c (.h 5003))),.sl 6 (.o (.c (.p 0 0))),.sl 7 (.o (.c (.k (.bool false)))),.sl 8 (.o (.c (.p 0 0))),.sl 9 (.o (.c (.p 0 0))),.sl 10 (.o (.c (.p 0 0))),.sl 11 (.o (.c (.h 0))),.sl 12 (.o (.c (.h 1))),.sl 13 (.o (.c (.h 2))),.sl 14 (.o (.c (.h 11))),.bx 0 62 [.h 0,.k (.bool false)]]) (C:=((1005000,.bin .lss 3 (LF (.h 3)) (LF (.h 2)) (LF (.h 4))) ::
  (10004,.fb 4 true) ::
  (1005008,.op (.ix 9) [LF (.h 0),LF (.h 3)] [] (LF (.h 5))) ::
  (1005011,.bin .eql 3 (LF (.h 3)) (LF (.k (.int .i64 9))) (LF (.h 6))) ::
  (10006,.fb 6 false) ::
  (1005018,.bin .gtr 3 (LF (.h 3)) (LF (.k (.int .i64 0))) (LF (.h 7))) ::
  (10007,.fb 7 false) ::
  (1005026,.bin .and 5 (LF (.h 5)) (LF (.k (.int .u8 127))) (LF (.h 8))) ::
  (1005027,.op (.cv 5 72) [LF (.h 8)] [] (LF (.h 5001))) ::
  (1005029,.bin .mul 3 (LF (.k (.int .i64 7))) (LF (.h 3)) (LF (.h 9))) ::
  (1005030,.bin .shl 72 (LF (.h 5001)) (LF (.h 9)) (LF (.h 5002))) ::
  (1005031,.bin .or 72 (LF (.h 5000)) (LF (.h 5002)) (LF (.h 5003))) ::
  (1005034,.bin .lss 5 (LF (.h 5)) (LF (.k (.int .u8 128))) (LF (.h 10))) ::
  (10010,.fb 10 false) ::
  (1005035,.bin .add 3 (LF (.h 3)) (LF (.k (.int .i64 1))) (LF (.h 11))) ::
  []:List (Nat×Ent))) (H:=.no) 5000 (zipA.imp ⟨z_c (fun _ _ _ h=>h),z_c (fun _ _ _ h=>h),z_c (fun _ _ _ h=>h),z_c (fun _ _ _ h=>h),z_c (fun _ _ _ h=>h),z_c (fun _ _ _ h=>h),z_c (fun _ _ _ h=>h),z_c (fun _ _ _ h=>h),z_c (fun _ _ _ h=>h),z_c (fun _ _ _ h=>h),z_c (fun _ _ _ h=>h),z_b ⟨fun _ _ _ h=>h,fun _ _ _ h=>h,trivial⟩,trivial⟩) (zf ⟨zb rfl,zb rfl,zb rfl,zb rfl,zb rfl,zb rfl,zb rfl,zb rfl,zb rfl,zb rfl,zb rfl,zb rfl,trivial⟩ trivial ⟨⟨rfl,zh⟩,⟨rfl,zh⟩,⟨rfl,zh⟩,⟨rfl,zh⟩,trivial⟩) ⟨e_bin (za rfl) (za rfl) (za rfl) (r_cmp (congrArg some e501)),
  e_fb (show pV (.bool v501)=_ by rw [h502]),
  e_op2 (za rfl) (za rfl) (za rfl) (r_ix (by kernel_rfl) s505 s506),
  e_bin (za rfl) zd (za rfl) (r_cmp (congrArg some e507)),
  e_fb (show pV (.bool v507)=_ by rw [h508]),
  e_bin (za rfl) zd (za rfl) (r_cmp (congrArg some e509)),
  e_fb (show pV (.bool v509)=_ by rw [h510]),
  e_bin (za rfl) zd (za rfl) (zL (congrArg some e511)),
  e_op1 (za rfl) (za rfl) (fun W=>by rw [← e512];exact r_cvi (by kernel_rfl) (by kernel_rfl) W),
  e_bin zd (za rfl) (za rfl) (r_ar (congrArg some e513)),
  e_bin (za rfl) (za rfl) (za rfl) (fun W X Y=>by rw [← e515];exact r_shl s514 W X Y),
  e_bin (za rfl) (za rfl) (za rfl) (zL (congrArg some e516)),
  e_bin (za rfl) zd (za rfl) (r_cmp (congrArg some e517)),
  e_fb (show pV (.bool v517)=_ by rw [h518]),
  e_bin (za rfl) zd (za rfl) (r_ar (congrArg some e519)),
  trivial⟩ mixed hR trivial (fun _ _ _ hs=>by cases hs) (by kernel_rfl:zz (KN w0) Tryz.prog _ .no ⟨ntOf Tryz.prog 36,[0],[]⟩ (lp Tryz.prog 36 0) 5000 zD .n [.sl 0 (.o (.c (.p 0 0))),.sl 3 (.o (.c (.h 5003))),.sl 6 (.o (.c (.p 0 0))),.sl 7 (.o (.c (.k (.bool false)))),.sl 8 (.o (.c (.p 0 0))),.sl 9 (.o (.c (.p 0 0))),.sl 10 (.o (.c (.p 0 0))),.sl 11 (.o (.c (.h 0))),.sl 12 (.o (.c (.h 1))),.sl 13 (.o (.c (.h 2))),.sl 14 (.o (.c (.h 11))),.bx 0 62 [.h 0,.k (.bool false)]]=true) rfl (zipA.imp ⟨z_c (fun _ _ _ h=>h),z_c (fun β v W h=>(zc rfl β v W).2 (by rw [← q0];exact h)),z_c (fun _ _ _ h=>h),z_c (fun _ _ _ h=>h),z_c (fun _ _ _ h=>h),z_c (fun _ _ _ h=>h),z_c (fun _ _ _ h=>h),z_c (fun _ _ _ h=>h),z_c (fun _ _ _ h=>h),z_c (fun _ _ _ h=>h),z_c (fun β v W h=>(zc rfl β v W).2 (by rw [← q1];exact h)),z_b ⟨fun _ _ _ h=>h,fun _ _ _ h=>h,trivial⟩,trivial⟩)
theorem znY {w0:World} (l:(List UInt8)) (v1:Int) (v2:Int) (code:Int) (i:Int) (v501:Bool) (e501:(decide (i<v2))=v501) (h502:v501=false) (F:Fact) (u0:F.c 0=pS l) (u1:F.c 1=pI v1) (u2:F.c 2=pI v2) (R:Frm) (hR:R.pm=⟨ntOf Tryz.prog 36,[0],[]⟩):Goes (KN w0) Tryz.prog R (lp Tryz.prog 36 0) (FL [pS l,pI v1,pI v2,pI i] [] [(5000,pV (.int .u64 code))]) zD (.x 0) F wrB_S.out:=
 goes (x:=(.x 0)) (y:=(.x 0)) (Fb:=FL [pS l,pI v1,pI v2,pI i,pB v501] [] [(5000,pV (.int .u64 code))]) (stb:=zD) (tl:=[.sl 0 (.o (.c (.p 0 0))),.sl 6 (.o (.c (.p 0 0))),.sl 7 (.o (.c (.k (.bool false)))),.sl 8 (.o (.c (.p 0 0))),.sl 9 (.o (.c (.p 0 0))),.sl 10 (.o (.c (.p 0 0))),.sl 11 (.o (.c (.h 0))),.sl 12 (.o (.c (.h 1))),.sl 13 (.o (.c (.h 2))),.bx 0 62 [.h 0,.k (.bool false)]]) (C:=((1005000,.bin .lss 3 (LF (.h 3)) (LF (.h 2)) (LF (.h 4))) ::
  (10004,.fb 4 false) ::
  []:List (Nat×Ent))) (H:=.no) 5000 (zipA.imp ⟨z_c (fun _ _ _ h=>h),z_c (fun _ _ _ h=>h),z_c (fun _ _ _ h=>h),z_c (fun _ _ _ h=>h),z_c (fun _ _ _ h=>h),z_c (fun _ _ _ h=>h),z_c (fun _ _ _ h=>h),z_c (fun _ _ _ h=>h),z_c (fun _ _ _ h=>h),z_c (fun _ _ _ h=>h),z_c (fun _ _ _ h=>h),z_b ⟨fun _ _ _ h=>h,fun _ _ _ h=>h,trivial⟩,trivial⟩) (zf ⟨zb rfl,zb rfl,zb rfl,zb rfl,zb rfl,trivial⟩ trivial ⟨⟨rfl,zh⟩,trivial⟩) ⟨e_bin (za rfl) (za rfl) (za rfl) (r_cmp (congrArg some e501)),
  e_fb (show pV (.bool v501)=_ by rw [h502]),
  trivial⟩ mixed hR trivial (fun _ _ _ hs=>by cases hs) (by kernel_rfl:zz (KN w0) Tryz.prog _ .no ⟨ntOf Tryz.prog 36,[0],[]⟩ (lp Tryz.prog 36 0) 5000 zD (.x 0) [.sl 0 (.o (.c (.p 0 0))),.sl 6 (.o (.c (.p 0 0))),.sl 7 (.o (.c (.k (.bool false)))),.sl 8 (.o (.c (.p 0 0))),.sl 9 (.o (.c (.p 0 0))),.sl 10 (.o (.c (.p 0 0))),.sl 11 (.o (.c (.h 0))),.sl 12 (.o (.c (.h 1))),.sl 13 (.o (.c (.h 2))),.bx 0 62 [.h 0,.k (.bool false)]]=true) rfl (zipA.imp ⟨z_c (fun _ _ _ h=>h),z_c (fun _ _ _ h=>h),z_c (fun _ _ _ h=>h),z_c (fun _ _ _ h=>h),z_c (fun _ _ _ h=>h),z_c (fun _ _ _ h=>h),z_c (fun β v W h=>(zc u0 β v W).2 h),z_c (fun β v W h=>(zc u1 β v W).2 h),z_c (fun β v W h=>(zc u2 β v W).2 h),z_b ⟨fun β v W h=>(zc u0 β v W).2 h,fun _ _ _ h=>h,trivial⟩,trivial⟩)
def wrB_X (l:(List UInt8)) (v1:Int) (v2:Int) (t:wrB_T):Prop:=(∃(v501:Bool),∃(n503:Nat),∃(b504:UInt8),∃(v507:Bool),∃(v509:Bool),((decide (t.i<v2))=v501)∧(((t.i == (9:Int)))=v507)∧((decide ((b504.toNat:Int) > (1:Int)))=v509)∧(v501=true)∧(t.i=(n503:Int))∧((l:List UInt8)[n503]?=some b504)∧(v507=true)∧(v509=true)∧True)∨(∃(v501:Bool),∃(n503:Nat),∃(b504:UInt8),∃(v507:Bool),∃(v509:Bool),∃(v511:Bool),∃(v513:Bool),((decide (t.i<v2))=v501)∧(((t.i == (9:Int)))=v507)∧((decide ((b504.toNat:Int) > (1:Int)))=v509)∧((decide (t.i > (0:Int)))=v511)∧((((b504.toNat:Int) == (0:Int)))=v513)∧(v501=true)∧(t.i=(n503:Int))∧((l:List UInt8)[n503]?=some b504)∧(v507=true)∧(v509=false)∧(v511=true)∧(v513=true)∧True)∨(∃(v501:Bool),∃(n503:Nat),∃(b504:UInt8),∃(v507:Bool),∃(v509:Bool),∃(v511:Bool),((decide (t.i<v2))=v501)∧(((t.i == (9:Int)))=v507)∧((decide (t.i > (0:Int)))=v509)∧((((b504.toNat:Int) == (0:Int)))=v511)∧(v501=true)∧(t.i=(n503:Int))∧((l:List UInt8)[n503]?=some b504)∧(v507=false)∧(v509=true)∧(v511=true)∧True)∨(∃(v501:Bool),((decide (t.i<v2))=v501)∧(v501=false)∧True)
def wrB_N (l:(List UInt8)) (v1:Int) (v2:Int) (t t':wrB_T):Prop:=(∃(v501:Bool),∃(n503:Nat),∃(b504:UInt8),∃(v507:Bool),∃(v509:Bool),∃(v511:Bool),∃(v513:Bool),∃(v515:Int),∃(v516:Int),∃(v517:Int),∃(v519:Int),∃(v520:Int),∃(v521:Bool),∃(v523:Int),((decide (t.i<v2))=v501)∧(((t.i == (9:Int)))=v507)∧((decide ((b504.toNat:Int) > (1:Int)))=v509)∧((decide (t.i > (0:Int)))=v511)∧((((b504.toNat:Int) == (0:Int)))=v513)∧((IntKind.u8.wrap (BitVec.ofInt IntKind.u8.bits (b504.toNat:Int) &&& BitVec.ofInt IntKind.u8.bits (127:Int)).toNat)=v515)∧((IntKind.u64.wrap v515)=v516)∧((IntKind.i64.wrap ((7:Int)*t.i))=v517)∧((IntKind.u64.wrap (v516*2 ^ min (v517:Int).toNat IntKind.u64.bits))=v519)∧((IntKind.u64.wrap (BitVec.ofInt IntKind.u64.bits t.code ||| BitVec.ofInt IntKind.u64.bits v519).toNat)=v520)∧((decide ((b504.toNat:Int)<(128:Int)))=v521)∧((IntKind.i64.wrap (t.i+(1:Int)))=v523)∧(v501=true)∧(t.i=(n503:Int))∧((l:List UInt8)[n503]?=some b504)∧(v507=true)∧(v509=false)∧(v511=true)∧(v513=false)∧(0≤v517)∧(v521=false)∧((v520)=t'.code)∧((v523)=t'.i)∧True)∨(∃(v501:Bool),∃(n503:Nat),∃(b504:UInt8),∃(v507:Bool),∃(v509:Bool),∃(v511:Bool),∃(v513:Int),∃(v514:Int),∃(v515:Int),∃(v517:Int),∃(v518:Int),∃(v519:Bool),∃(v521:Int),((decide (t.i<v2))=v501)∧(((t.i == (9:Int)))=v507)∧((decide ((b504.toNat:Int) > (1:Int)))=v509)∧((decide (t.i > (0:Int)))=v511)∧((IntKind.u8.wrap (BitVec.ofInt IntKind.u8.bits (b504.toNat:Int) &&& BitVec.ofInt IntKind.u8.bits (127:Int)).toNat)=v513)∧((IntKind.u64.wrap v513)=v514)∧((IntKind.i64.wrap ((7:Int)*t.i))=v515)∧((IntKind.u64.wrap (v514*2 ^ min (v515:Int).toNat IntKind.u64.bits))=v517)∧((IntKind.u64.wrap (BitVec.ofInt IntKind.u64.bits t.code ||| BitVec.ofInt IntKind.u64.bits v517).toNat)=v518)∧((decide ((b504.toNat:Int)<(128:Int)))=v519)∧((IntKind.i64.wrap (t.i+(1:Int)))=v521)∧(v501=true)∧(t.i=(n503:Int))∧((l:List UInt8)[n503]?=some b504)∧(v507=true)∧(v509=false)∧(v511=false)∧(0≤v515)∧(v519=false)∧((v518)=t'.code)∧((v521)=t'.i)∧True)∨(∃(v501:Bool),∃(n503:Nat),∃(b504:UInt8),∃(v507:Bool),∃(v509:Bool),∃(v511:Bool),∃(v513:Int),∃(v514:Int),∃(v515:Int),∃(v517:Int),∃(v518:Int),∃(v519:Bool),∃(v521:Int),((decide (t.i<v2))=v501)∧(((t.i == (9:Int)))=v507)∧((decide (t.i > (0:Int)))=v509)∧((((b504.toNat:Int) == (0:Int)))=v511)∧((IntKind.u8.wrap (BitVec.ofInt IntKind.u8.bits (b504.toNat:Int) &&& BitVec.ofInt IntKind.u8.bits (127:Int)).toNat)=v513)∧((IntKind.u64.wrap v513)=v514)∧((IntKind.i64.wrap ((7:Int)*t.i))=v515)∧((IntKind.u64.wrap (v514*2 ^ min (v515:Int).toNat IntKind.u64.bits))=v517)∧((IntKind.u64.wrap (BitVec.ofInt IntKind.u64.bits t.code ||| BitVec.ofInt IntKind.u64.bits v517).toNat)=v518)∧((decide ((b504.toNat:Int)<(128:Int)))=v519)∧((IntKind.i64.wrap (t.i+(1:Int)))=v521)∧(v501=true)∧(t.i=(n503:Int))∧((l:List UInt8)[n503]?=some b504)∧(v507=false)∧(v509=true)∧(v511=false)∧(0≤v515)∧(v519=false)∧((v518)=t'.code)∧((v521)=t'.i)∧True)∨(∃(v501:Bool),∃(n503:Nat),∃(b504:UInt8),∃(v507:Bool),∃(v509:Bool),∃(v511:Int),∃(v512:Int),∃(v513:Int),∃(v515:Int),∃(v516:Int),∃(v517:Bool),∃(v519:Int),((decide (t.i<v2))=v501)∧(((t.i == (9:Int)))=v507)∧((decide (t.i > (0:Int)))=v509)∧((IntKind.u8.wrap (BitVec.ofInt IntKind.u8.bits (b504.toNat:Int) &&& BitVec.ofInt IntKind.u8.bits (127:Int)).toNat)=v511)∧((IntKind.u64.wrap v511)=v512)∧((IntKind.i64.wrap ((7:Int)*t.i))=v513)∧((IntKind.u64.wrap (v512*2 ^ min (v513:Int).toNat IntKind.u64.bits))=v515)∧((IntKind.u64.wrap (BitVec.ofInt IntKind.u64.bits t.code ||| BitVec.ofInt IntKind.u64.bits v515).toNat)=v516)∧((decide ((b504.toNat:Int)<(128:Int)))=v517)∧((IntKind.i64.wrap (t.i+(1:Int)))=v519)∧(v501=true)∧(t.i=(n503:Int))∧((l:List UInt8)[n503]?=some b504)∧(v507=false)∧(v509=false)∧(0≤v513)∧(v517=false)∧((v516)=t'.code)∧((v519)=t'.i)∧True)
theorem zme {w0:World} (l:(List UInt8)) (v1:Int) (v2:Int) {F:Fact} (u0:F.c 0=pS l) (u1:F.c 1=pI v1) (u2:F.c 2=pI v2) (R:Frm) (hR:R.pm=⟨ntOf Tryz.prog 36,[0],[]⟩) (J:wrB_T→Prop) (m:wrB_T→Nat) (hJ:J { code:=(0:Int),i:=(0:Int) }) (rounds:∀t,J t→wrB_X l v1 v2 t ∨∃t',wrB_N l v1 v2 t t'∧m t'<m t∧J t'):zg (KN w0) Tryz.prog F R wrB_S (lp Tryz.prog 36 0):=by
 refine zP (T:=wrB_T) (fun t=>FL [pS l,pI v1,pI v2,pI t.i] [] [(5000,pV (.int .u64 t.code))]) J m { code:=(0:Int),i:=(0:Int) } zD hJ (zipA.imp ⟨z_c (fun _ _ _ h=>h),z_c (fun _ _ _ h=>h),z_c (fun _ _ _ h=>h),z_c (fun _ _ _ h=>h),z_c (fun _ _ _ h=>h),z_c (fun _ _ _ h=>h),z_c (fun _ _ _ h=>h),z_c (fun β v W h=>(zc u0 β v W).1 h),z_c (fun β v W h=>(zc u1 β v W).1 h),z_c (fun β v W h=>(zc u2 β v W).1 h),z_c (fun _ _ _ h=>h),z_b ⟨fun β v W h=>(zc u0 β v W).1 h,fun _ _ _ h=>h,trivial⟩,trivial⟩) rfl fun t ht=>?_
 rcases rounds t ht with hz_ | ⟨t',hz_,hm_,hj_⟩
 ·refine .inl ?_
  rcases hz_ with ⟨v501,n503,b504,v507,v509,e501,e507,e509,h502,s505,s506,h508,h510,_⟩ | ⟨v501,n503,b504,v507,v509,v511,v513,e501,e507,e509,e511,e513,h502,s505,s506,h508,h510,h512,h514,_⟩ | ⟨v501,n503,b504,v507,v509,v511,e501,e507,e509,e511,h502,s505,s506,h508,h510,h512,_⟩ | ⟨v501,e501,h502,_⟩
  ·exact zoV  l v1 v2  t.code t.i v501 n503 b504 v507 v509 e501 e507 e509 h502 s505 s506 h508 h510  F u0 u1 u2  R hR
  ·exact zoW  l v1 v2  t.code t.i v501 n503 b504 v507 v509 v511 v513 e501 e507 e509 e511 e513 h502 s505 s506 h508 h510 h512 h514  F u0 u1 u2  R hR
  ·exact zoZ  l v1 v2  t.code t.i v501 n503 b504 v507 v509 v511 e501 e507 e509 e511 h502 s505 s506 h508 h510 h512  F u0 u1 u2  R hR
  ·exact znY  l v1 v2  t.code t.i v501 e501 h502  F u0 u1 u2  R hR
 ·refine .inr ⟨t',hm_,hj_,?_⟩
  rcases hz_ with ⟨v501,n503,b504,v507,v509,v511,v513,v515,v516,v517,v519,v520,v521,v523,e501,e507,e509,e511,e513,e515,e516,e517,e519,e520,e521,e523,h502,s505,s506,h508,h510,h512,h514,s518,h522,q0,q1,_⟩ | ⟨v501,n503,b504,v507,v509,v511,v513,v514,v515,v517,v518,v519,v521,e501,e507,e509,e511,e513,e514,e515,e517,e518,e519,e521,h502,s505,s506,h508,h510,h512,s516,h520,q0,q1,_⟩ | ⟨v501,n503,b504,v507,v509,v511,v513,v514,v515,v517,v518,v519,v521,e501,e507,e509,e511,e513,e514,e515,e517,e518,e519,e521,h502,s505,s506,h508,h510,h512,s516,h520,q0,q1,_⟩ | ⟨v501,n503,b504,v507,v509,v511,v512,v513,v515,v516,v517,v519,e501,e507,e509,e511,e512,e513,e515,e516,e517,e519,h502,s505,s506,h508,h510,s514,h518,q0,q1,_⟩
  ·exact zoX  l v1 v2  t.code t.i v501 n503 b504 v507 v509 v511 v513 v515 v516 v517 v519 v520 v521 v523 e501 e507 e509 e511 e513 e515 e516 e517 e519 e520 e521 e523 h502 s505 s506 h508 h510 h512 h514 s518 h522 t'.code t'.i q0 q1 R hR
  ·exact zoY  l v1 v2  t.code t.i v501 n503 b504 v507 v509 v511 v513 v514 v515 v517 v518 v519 v521 e501 e507 e509 e511 e513 e514 e515 e517 e518 e519 e521 h502 s505 s506 h508 h510 h512 s516 h520 t'.code t'.i q0 q1 R hR
  ·exact zo0  l v1 v2  t.code t.i v501 n503 b504 v507 v509 v511 v513 v514 v515 v517 v518 v519 v521 e501 e507 e509 e511 e513 e514 e515 e517 e518 e519 e521 h502 s505 s506 h508 h510 h512 s516 h520 t'.code t'.i q0 q1 R hR
  ·exact znX  l v1 v2  t.code t.i v501 n503 b504 v507 v509 v511 v512 v513 v515 v516 v517 v519 e501 e507 e509 e511 e512 e513 e515 e516 e517 e519 h502 s505 s506 h508 h510 s514 h518 t'.code t'.i q0 q1 R hR
theorem zoU {w0:World} (l:(List UInt8)) (v1:Int) (v2:Int) {F:Fact} (u0:F.c 0=pS l) (u1:F.c 1=pI v1) (u2:F.c 2=pI v2) (R:Frm) (hR:R.pm=⟨ntOf Tryz.prog 36,[0],[]⟩) (h1:((l:List UInt8).length:Int)=v1) (h2:(if v1<(10:Int) then v1 else (10:Int))=v2) (hd:¬ (decGo 0 l).isSome=true):zg (KN w0) Tryz.prog F R wrB_S (lp Tryz.prog 36 0):=by
 refine zme  l v1 v2   u0 u1 u2 R hR (fun ⟨code,i⟩=>∃k c:Nat,i=(k:Int)∧code=(c:Int)∧RdJ l k c) (fun ⟨code,i⟩=>(10 - i).toNat) ⟨0,0,rfl,rfl,ze3 l⟩ fun t hJ=>?_
 obtain ⟨code,i⟩:=t
 dsimp only at hJ
 obtain ⟨k,c,hi,hc,hJ⟩:=hJ
 have hk9:=hJ.1
 obtain ⟨v501,e501⟩:∃v,(decide (i<v2))=v:=⟨_,rfl⟩
 cases h502:v501 with
 | true =>
  obtain ⟨n503,b504,s505,s506⟩:∃(n503:Nat) (b504:UInt8),i=(n503:Int)∧(l:List UInt8)[n503]?=some b504:=by (have dh502:=of_decide_eq_true (e501.trans h502);have hlt:k<l.length:=(by split at h2<;>omega);exact ⟨k,l[k],hi,List.getElem?_eq_getElem hlt⟩)
  obtain ⟨v507,e507⟩:∃v,((i == (9:Int)))=v:=⟨_,rfl⟩
  cases h508:v507 with
  | true =>
   obtain ⟨v509,e509⟩:∃v,(decide ((b504.toNat:Int) > (1:Int)))=v:=⟨_,rfl⟩
   cases h510:v509 with
   | true =>
    refine .inl (Or.inl (⟨v501,n503,b504,v507,v509,e501,e507,e509,h502,s505,s506,h508,h510,trivial⟩))
   | false =>
    obtain ⟨v511,e511⟩:∃v,(decide (i > (0:Int)))=v:=⟨_,rfl⟩
    cases h512:v511 with
    | true =>
     obtain ⟨v513,e513⟩:∃v,(((b504.toNat:Int) == (0:Int)))=v:=⟨_,rfl⟩
     cases h514:v513 with
     | true =>
      refine .inl (Or.inr (Or.inl (⟨v501,n503,b504,v507,v509,v511,v513,e501,e507,e509,e511,e513,h502,s505,s506,h508,h510,h512,h514,trivial⟩)))
     | false =>
      obtain ⟨v515,e515⟩:∃v,(IntKind.u8.wrap (BitVec.ofInt IntKind.u8.bits (b504.toNat:Int) &&& BitVec.ofInt IntKind.u8.bits (127:Int)).toNat)=v:=⟨_,rfl⟩
      obtain ⟨v516,e516⟩:∃v,(IntKind.u64.wrap v515)=v:=⟨_,rfl⟩
      obtain ⟨v517,e517⟩:∃v,(IntKind.i64.wrap ((7:Int)*i))=v:=⟨_,rfl⟩
      have s518:0≤v517:=by (rw [← e517,hi,wri (by omega)];omega)
      obtain ⟨v519,e519⟩:∃v,(IntKind.u64.wrap (v516*2 ^ min (v517:Int).toNat IntKind.u64.bits))=v:=⟨_,rfl⟩
      obtain ⟨v520,e520⟩:∃v,(IntKind.u64.wrap (BitVec.ofInt IntKind.u64.bits code ||| BitVec.ofInt IntKind.u64.bits v519).toNat)=v:=⟨_,rfl⟩
      obtain ⟨v521,e521⟩:∃v,(decide ((b504.toNat:Int)<(128:Int)))=v:=⟨_,rfl⟩
      cases h522:v521 with
      | true =>
       obtain ⟨v523,e523⟩:∃v,(IntKind.i64.wrap (i+(1:Int)))=v:=⟨_,rfl⟩
       obtain ⟨n524,s525⟩:∃(n524:Nat),v523=(n524:Int):=by (refine ⟨k+1,?_⟩;rw [← e523,hi,wri (by omega)];omega)
       obtain ⟨v526,e526⟩:∃v,((l:List UInt8).drop n524)=v:=⟨_,rfl⟩
       have s527:n524≤(l:List UInt8).length:=by (have dh502:=of_decide_eq_true (e501.trans h502);have dh508:=eq_of_beq (e507.trans h508);have dh510:=of_decide_eq_false (e509.trans h510);have dh512:=of_decide_eq_true (e511.trans h512);have dh514:=ne_of_beq_false (e513.trans h514);have dh522:=of_decide_eq_true (e521.trans h522);have hlt:k<l.length:=(by split at h2<;>omega);have:=e523;rw [hi,wri (by omega)] at this;omega)
       obtain ⟨v528,e528⟩:∃v,((v520:Int).fdiv (2 ^ min ((1:Int):Int).toNat IntKind.u64.bits))=v:=⟨_,rfl⟩
       obtain ⟨v529,e529⟩:∃v,(IntKind.i64.wrap v528)=v:=⟨_,rfl⟩
       obtain ⟨v530,e530⟩:∃v,(IntKind.u64.wrap (BitVec.ofInt IntKind.u64.bits v520 &&& BitVec.ofInt IntKind.u64.bits (1:Int)).toNat)=v:=⟨_,rfl⟩
       obtain ⟨v531,e531⟩:∃v,(IntKind.i64.wrap v530)=v:=⟨_,rfl⟩
       obtain ⟨v532,e532⟩:∃v,(IntKind.i64.wrap (0 - v531))=v:=⟨_,rfl⟩
       obtain ⟨v533,e533⟩:∃v,(IntKind.i64.wrap (BitVec.ofInt IntKind.i64.bits v529 ^^^ BitVec.ofInt IntKind.i64.bits v532).toNat)=v:=⟨_,rfl⟩
       exfalso
       have dh502:=of_decide_eq_true (e501.trans h502);have dh508:=eq_of_beq (e507.trans h508);have dh510:=of_decide_eq_false (e509.trans h510);have dh512:=of_decide_eq_true (e511.trans h512);have dh514:=ne_of_beq_false (e513.trans h514);have dh522:=of_decide_eq_true (e521.trans h522)
       have hnk:n503=k:=(by omega)
       subst hnk
       have hb:=s506
       have hnb:¬ badB n503 b504:=(by unfold badB;omega)
       have x1:v516=((b504.toNat%128:Nat):Int):=(by rw [← e516,← e515,and8,wu64];omega)
       have x2:v517=((7*n503:Nat):Int):=(by rw [← e517,hi,wri (by omega)];omega)
       have x3:v520=((c+2 ^ (7*n503)*(b504.toNat%128):Nat):Int):=(by rw [← e520,← e519,x1,x2,hc];exact rd_or hJ hnb)
       have hs:b504.toNat<128:=(by omega)
       have hdn:=qW hJ hb hnb hs
       exact hd (by rw [hdn];rfl)
      | false =>
       obtain ⟨v523,e523⟩:∃v,(IntKind.i64.wrap (i+(1:Int)))=v:=⟨_,rfl⟩
       refine .inr ⟨⟨v520,v523⟩,Or.inl (⟨v501,n503,b504,v507,v509,v511,v513,v515,v516,v517,v519,v520,v521,v523,e501,e507,e509,e511,e513,e515,e516,e517,e519,e520,e521,e523,h502,s505,s506,h508,h510,h512,h514,s518,h522,rfl,rfl,trivial⟩),?_,?_⟩
       all_goals (have dh502:=of_decide_eq_true (e501.trans h502);have dh508:=eq_of_beq (e507.trans h508);have dh510:=of_decide_eq_false (e509.trans h510);have dh512:=of_decide_eq_true (e511.trans h512);have dh514:=ne_of_beq_false (e513.trans h514);have dh522:=of_decide_eq_false (e521.trans h522);have hnk:n503=k:=(by omega);subst hnk;have hb:=s506;have hnb:¬ badB n503 b504:=(by unfold badB;omega);have x1:v516=((b504.toNat%128:Nat):Int):=(by rw [← e516,← e515,and8,wu64];omega);have x2:v517=((7*n503:Nat):Int):=(by rw [← e517,hi,wri (by omega)];omega);have x3:v520=((c+2 ^ (7*n503)*(b504.toNat%128):Nat):Int):=(by rw [← e520,← e519,x1,x2,hc];exact rd_or hJ hnb);have x4:v523=((n503+1:Nat):Int):=(by rw [← e523,hi,wri (by omega)];omega);have hbl:=b504.toNat_lt)
       ·show (10 - v523).toNat<(10 - i).toNat
        omega
       ·exact ⟨n503+1,_,x4,(by rw [x3,show b504.toNat%128=b504.toNat - 128 by omega]),qX hJ hb hnb (by omega)⟩
    | false =>
     obtain ⟨v513,e513⟩:∃v,(IntKind.u8.wrap (BitVec.ofInt IntKind.u8.bits (b504.toNat:Int) &&& BitVec.ofInt IntKind.u8.bits (127:Int)).toNat)=v:=⟨_,rfl⟩
     obtain ⟨v514,e514⟩:∃v,(IntKind.u64.wrap v513)=v:=⟨_,rfl⟩
     obtain ⟨v515,e515⟩:∃v,(IntKind.i64.wrap ((7:Int)*i))=v:=⟨_,rfl⟩
     have s516:0≤v515:=by (rw [← e515,hi,wri (by omega)];omega)
     obtain ⟨v517,e517⟩:∃v,(IntKind.u64.wrap (v514*2 ^ min (v515:Int).toNat IntKind.u64.bits))=v:=⟨_,rfl⟩
     obtain ⟨v518,e518⟩:∃v,(IntKind.u64.wrap (BitVec.ofInt IntKind.u64.bits code ||| BitVec.ofInt IntKind.u64.bits v517).toNat)=v:=⟨_,rfl⟩
     obtain ⟨v519,e519⟩:∃v,(decide ((b504.toNat:Int)<(128:Int)))=v:=⟨_,rfl⟩
     cases h520:v519 with
     | true =>
      obtain ⟨v521,e521⟩:∃v,(IntKind.i64.wrap (i+(1:Int)))=v:=⟨_,rfl⟩
      obtain ⟨n522,s523⟩:∃(n522:Nat),v521=(n522:Int):=by (refine ⟨k+1,?_⟩;rw [← e521,hi,wri (by omega)];omega)
      obtain ⟨v524,e524⟩:∃v,((l:List UInt8).drop n522)=v:=⟨_,rfl⟩
      have s525:n522≤(l:List UInt8).length:=by (have dh502:=of_decide_eq_true (e501.trans h502);have dh508:=eq_of_beq (e507.trans h508);have dh510:=of_decide_eq_false (e509.trans h510);have dh512:=of_decide_eq_false (e511.trans h512);have dh520:=of_decide_eq_true (e519.trans h520);have hlt:k<l.length:=(by split at h2<;>omega);have:=e521;rw [hi,wri (by omega)] at this;omega)
      obtain ⟨v526,e526⟩:∃v,((v518:Int).fdiv (2 ^ min ((1:Int):Int).toNat IntKind.u64.bits))=v:=⟨_,rfl⟩
      obtain ⟨v527,e527⟩:∃v,(IntKind.i64.wrap v526)=v:=⟨_,rfl⟩
      obtain ⟨v528,e528⟩:∃v,(IntKind.u64.wrap (BitVec.ofInt IntKind.u64.bits v518 &&& BitVec.ofInt IntKind.u64.bits (1:Int)).toNat)=v:=⟨_,rfl⟩
      obtain ⟨v529,e529⟩:∃v,(IntKind.i64.wrap v528)=v:=⟨_,rfl⟩
      obtain ⟨v530,e530⟩:∃v,(IntKind.i64.wrap (0 - v529))=v:=⟨_,rfl⟩
      obtain ⟨v531,e531⟩:∃v,(IntKind.i64.wrap (BitVec.ofInt IntKind.i64.bits v527 ^^^ BitVec.ofInt IntKind.i64.bits v530).toNat)=v:=⟨_,rfl⟩
      exfalso
      have dh502:=of_decide_eq_true (e501.trans h502);have dh508:=eq_of_beq (e507.trans h508);have dh510:=of_decide_eq_false (e509.trans h510);have dh512:=of_decide_eq_false (e511.trans h512);have dh520:=of_decide_eq_true (e519.trans h520)
      have hnk:n503=k:=(by omega)
      subst hnk
      have hb:=s506
      have hnb:¬ badB n503 b504:=(by unfold badB;omega)
      have x1:v514=((b504.toNat%128:Nat):Int):=(by rw [← e514,← e513,and8,wu64];omega)
      have x2:v515=((7*n503:Nat):Int):=(by rw [← e515,hi,wri (by omega)];omega)
      have x3:v518=((c+2 ^ (7*n503)*(b504.toNat%128):Nat):Int):=(by rw [← e518,← e517,x1,x2,hc];exact rd_or hJ hnb)
      have hs:b504.toNat<128:=(by omega)
      have hdn:=qW hJ hb hnb hs
      exact hd (by rw [hdn];rfl)
     | false =>
      obtain ⟨v521,e521⟩:∃v,(IntKind.i64.wrap (i+(1:Int)))=v:=⟨_,rfl⟩
      refine .inr ⟨⟨v518,v521⟩,Or.inr (Or.inl (⟨v501,n503,b504,v507,v509,v511,v513,v514,v515,v517,v518,v519,v521,e501,e507,e509,e511,e513,e514,e515,e517,e518,e519,e521,h502,s505,s506,h508,h510,h512,s516,h520,rfl,rfl,trivial⟩)),?_,?_⟩
      all_goals (have dh502:=of_decide_eq_true (e501.trans h502);have dh508:=eq_of_beq (e507.trans h508);have dh510:=of_decide_eq_false (e509.trans h510);have dh512:=of_decide_eq_false (e511.trans h512);have dh520:=of_decide_eq_false (e519.trans h520);have hnk:n503=k:=(by omega);subst hnk;have hb:=s506;have hnb:¬ badB n503 b504:=(by unfold badB;omega);have x1:v514=((b504.toNat%128:Nat):Int):=(by rw [← e514,← e513,and8,wu64];omega);have x2:v515=((7*n503:Nat):Int):=(by rw [← e515,hi,wri (by omega)];omega);have x3:v518=((c+2 ^ (7*n503)*(b504.toNat%128):Nat):Int):=(by rw [← e518,← e517,x1,x2,hc];exact rd_or hJ hnb);have x4:v521=((n503+1:Nat):Int):=(by rw [← e521,hi,wri (by omega)];omega);have hbl:=b504.toNat_lt)
      ·show (10 - v521).toNat<(10 - i).toNat
       omega
      ·exact ⟨n503+1,_,x4,(by rw [x3,show b504.toNat%128=b504.toNat - 128 by omega]),qX hJ hb hnb (by omega)⟩
  | false =>
   obtain ⟨v509,e509⟩:∃v,(decide (i > (0:Int)))=v:=⟨_,rfl⟩
   cases h510:v509 with
   | true =>
    obtain ⟨v511,e511⟩:∃v,(((b504.toNat:Int) == (0:Int)))=v:=⟨_,rfl⟩
    cases h512:v511 with
    | true =>
     refine .inl (Or.inr (Or.inr (Or.inl (⟨v501,n503,b504,v507,v509,v511,e501,e507,e509,e511,h502,s505,s506,h508,h510,h512,trivial⟩))))
    | false =>
     obtain ⟨v513,e513⟩:∃v,(IntKind.u8.wrap (BitVec.ofInt IntKind.u8.bits (b504.toNat:Int) &&& BitVec.ofInt IntKind.u8.bits (127:Int)).toNat)=v:=⟨_,rfl⟩
     obtain ⟨v514,e514⟩:∃v,(IntKind.u64.wrap v513)=v:=⟨_,rfl⟩
     obtain ⟨v515,e515⟩:∃v,(IntKind.i64.wrap ((7:Int)*i))=v:=⟨_,rfl⟩
     have s516:0≤v515:=by (rw [← e515,hi,wri (by omega)];omega)
     obtain ⟨v517,e517⟩:∃v,(IntKind.u64.wrap (v514*2 ^ min (v515:Int).toNat IntKind.u64.bits))=v:=⟨_,rfl⟩
     obtain ⟨v518,e518⟩:∃v,(IntKind.u64.wrap (BitVec.ofInt IntKind.u64.bits code ||| BitVec.ofInt IntKind.u64.bits v517).toNat)=v:=⟨_,rfl⟩
     obtain ⟨v519,e519⟩:∃v,(decide ((b504.toNat:Int)<(128:Int)))=v:=⟨_,rfl⟩
     cases h520:v519 with
     | true =>
      obtain ⟨v521,e521⟩:∃v,(IntKind.i64.wrap (i+(1:Int)))=v:=⟨_,rfl⟩
      obtain ⟨n522,s523⟩:∃(n522:Nat),v521=(n522:Int):=by (refine ⟨k+1,?_⟩;rw [← e521,hi,wri (by omega)];omega)
      obtain ⟨v524,e524⟩:∃v,((l:List UInt8).drop n522)=v:=⟨_,rfl⟩
      have s525:n522≤(l:List UInt8).length:=by (have dh502:=of_decide_eq_true (e501.trans h502);have dh508:=ne_of_beq_false (e507.trans h508);have dh510:=of_decide_eq_true (e509.trans h510);have dh512:=ne_of_beq_false (e511.trans h512);have dh520:=of_decide_eq_true (e519.trans h520);have hlt:k<l.length:=(by split at h2<;>omega);have:=e521;rw [hi,wri (by omega)] at this;omega)
      obtain ⟨v526,e526⟩:∃v,((v518:Int).fdiv (2 ^ min ((1:Int):Int).toNat IntKind.u64.bits))=v:=⟨_,rfl⟩
      obtain ⟨v527,e527⟩:∃v,(IntKind.i64.wrap v526)=v:=⟨_,rfl⟩
      obtain ⟨v528,e528⟩:∃v,(IntKind.u64.wrap (BitVec.ofInt IntKind.u64.bits v518 &&& BitVec.ofInt IntKind.u64.bits (1:Int)).toNat)=v:=⟨_,rfl⟩
      obtain ⟨v529,e529⟩:∃v,(IntKind.i64.wrap v528)=v:=⟨_,rfl⟩
      obtain ⟨v530,e530⟩:∃v,(IntKind.i64.wrap (0 - v529))=v:=⟨_,rfl⟩
      obtain ⟨v531,e531⟩:∃v,(IntKind.i64.wrap (BitVec.ofInt IntKind.i64.bits v527 ^^^ BitVec.ofInt IntKind.i64.bits v530).toNat)=v:=⟨_,rfl⟩
      exfalso
      have dh502:=of_decide_eq_true (e501.trans h502);have dh508:=ne_of_beq_false (e507.trans h508);have dh510:=of_decide_eq_true (e509.trans h510);have dh512:=ne_of_beq_false (e511.trans h512);have dh520:=of_decide_eq_true (e519.trans h520)
      have hnk:n503=k:=(by omega)
      subst hnk
      have hb:=s506
      have hnb:¬ badB n503 b504:=(by unfold badB;omega)
      have x1:v514=((b504.toNat%128:Nat):Int):=(by rw [← e514,← e513,and8,wu64];omega)
      have x2:v515=((7*n503:Nat):Int):=(by rw [← e515,hi,wri (by omega)];omega)
      have x3:v518=((c+2 ^ (7*n503)*(b504.toNat%128):Nat):Int):=(by rw [← e518,← e517,x1,x2,hc];exact rd_or hJ hnb)
      have hs:b504.toNat<128:=(by omega)
      have hdn:=qW hJ hb hnb hs
      exact hd (by rw [hdn];rfl)
     | false =>
      obtain ⟨v521,e521⟩:∃v,(IntKind.i64.wrap (i+(1:Int)))=v:=⟨_,rfl⟩
      refine .inr ⟨⟨v518,v521⟩,Or.inr (Or.inr (Or.inl (⟨v501,n503,b504,v507,v509,v511,v513,v514,v515,v517,v518,v519,v521,e501,e507,e509,e511,e513,e514,e515,e517,e518,e519,e521,h502,s505,s506,h508,h510,h512,s516,h520,rfl,rfl,trivial⟩))),?_,?_⟩
      all_goals (have dh502:=of_decide_eq_true (e501.trans h502);have dh508:=ne_of_beq_false (e507.trans h508);have dh510:=of_decide_eq_true (e509.trans h510);have dh512:=ne_of_beq_false (e511.trans h512);have dh520:=of_decide_eq_false (e519.trans h520);have hnk:n503=k:=(by omega);subst hnk;have hb:=s506;have hnb:¬ badB n503 b504:=(by unfold badB;omega);have x1:v514=((b504.toNat%128:Nat):Int):=(by rw [← e514,← e513,and8,wu64];omega);have x2:v515=((7*n503:Nat):Int):=(by rw [← e515,hi,wri (by omega)];omega);have x3:v518=((c+2 ^ (7*n503)*(b504.toNat%128):Nat):Int):=(by rw [← e518,← e517,x1,x2,hc];exact rd_or hJ hnb);have x4:v521=((n503+1:Nat):Int):=(by rw [← e521,hi,wri (by omega)];omega);have hbl:=b504.toNat_lt)
      ·show (10 - v521).toNat<(10 - i).toNat
       omega
      ·exact ⟨n503+1,_,x4,(by rw [x3,show b504.toNat%128=b504.toNat - 128 by omega]),qX hJ hb hnb (by omega)⟩
   | false =>
    obtain ⟨v511,e511⟩:∃v,(IntKind.u8.wrap (BitVec.ofInt IntKind.u8.bits (b504.toNat:Int) &&& BitVec.ofInt IntKind.u8.bits (127:Int)).toNat)=v:=⟨_,rfl⟩
    obtain ⟨v512,e512⟩:∃v,(IntKind.u64.wrap v511)=v:=⟨_,rfl⟩
    obtain ⟨v513,e513⟩:∃v,(IntKind.i64.wrap ((7:Int)*i))=v:=⟨_,rfl⟩
    have s514:0≤v513:=by (rw [← e513,hi,wri (by omega)];omega)
    obtain ⟨v515,e515⟩:∃v,(IntKind.u64.wrap (v512*2 ^ min (v513:Int).toNat IntKind.u64.bits))=v:=⟨_,rfl⟩
    obtain ⟨v516,e516⟩:∃v,(IntKind.u64.wrap (BitVec.ofInt IntKind.u64.bits code ||| BitVec.ofInt IntKind.u64.bits v515).toNat)=v:=⟨_,rfl⟩
    obtain ⟨v517,e517⟩:∃v,(decide ((b504.toNat:Int)<(128:Int)))=v:=⟨_,rfl⟩
    cases h518:v517 with
    | true =>
     obtain ⟨v519,e519⟩:∃v,(IntKind.i64.wrap (i+(1:Int)))=v:=⟨_,rfl⟩
     obtain ⟨n520,s521⟩:∃(n520:Nat),v519=(n520:Int):=by (refine ⟨k+1,?_⟩;rw [← e519,hi,wri (by omega)];omega)
     obtain ⟨v522,e522⟩:∃v,((l:List UInt8).drop n520)=v:=⟨_,rfl⟩
     have s523:n520≤(l:List UInt8).length:=by (have dh502:=of_decide_eq_true (e501.trans h502);have dh508:=ne_of_beq_false (e507.trans h508);have dh510:=of_decide_eq_false (e509.trans h510);have dh518:=of_decide_eq_true (e517.trans h518);have hlt:k<l.length:=(by split at h2<;>omega);have:=e519;rw [hi,wri (by omega)] at this;omega)
     obtain ⟨v524,e524⟩:∃v,((v516:Int).fdiv (2 ^ min ((1:Int):Int).toNat IntKind.u64.bits))=v:=⟨_,rfl⟩
     obtain ⟨v525,e525⟩:∃v,(IntKind.i64.wrap v524)=v:=⟨_,rfl⟩
     obtain ⟨v526,e526⟩:∃v,(IntKind.u64.wrap (BitVec.ofInt IntKind.u64.bits v516 &&& BitVec.ofInt IntKind.u64.bits (1:Int)).toNat)=v:=⟨_,rfl⟩
     obtain ⟨v527,e527⟩:∃v,(IntKind.i64.wrap v526)=v:=⟨_,rfl⟩
     obtain ⟨v528,e528⟩:∃v,(IntKind.i64.wrap (0 - v527))=v:=⟨_,rfl⟩
     obtain ⟨v529,e529⟩:∃v,(IntKind.i64.wrap (BitVec.ofInt IntKind.i64.bits v525 ^^^ BitVec.ofInt IntKind.i64.bits v528).toNat)=v:=⟨_,rfl⟩
     exfalso
     have dh502:=of_decide_eq_true (e501.trans h502);have dh508:=ne_of_beq_false (e507.trans h508);have dh510:=of_decide_eq_false (e509.trans h510);have dh518:=of_decide_eq_true (e517.trans h518)
     have hnk:n503=k:=(by omega)
     subst hnk
     have hb:=s506
     have hnb:¬ badB n503 b504:=(by unfold badB;omega)
     have x1:v512=((b504.toNat%128:Nat):Int):=(by rw [← e512,← e511,and8,wu64];omega)
     have x2:v513=((7*n503:Nat):Int):=(by rw [← e513,hi,wri (by omega)];omega)
     have x3:v516=((c+2 ^ (7*n503)*(b504.toNat%128):Nat):Int):=(by rw [← e516,← e515,x1,x2,hc];exact rd_or hJ hnb)
     have hs:b504.toNat<128:=(by omega)
     have hdn:=qW hJ hb hnb hs
     exact hd (by rw [hdn];rfl)
    | false =>
     obtain ⟨v519,e519⟩:∃v,(IntKind.i64.wrap (i+(1:Int)))=v:=⟨_,rfl⟩
     refine .inr ⟨⟨v516,v519⟩,Or.inr (Or.inr (Or.inr (⟨v501,n503,b504,v507,v509,v511,v512,v513,v515,v516,v517,v519,e501,e507,e509,e511,e512,e513,e515,e516,e517,e519,h502,s505,s506,h508,h510,s514,h518,rfl,rfl,trivial⟩))),?_,?_⟩
     all_goals (have dh502:=of_decide_eq_true (e501.trans h502);have dh508:=ne_of_beq_false (e507.trans h508);have dh510:=of_decide_eq_false (e509.trans h510);have dh518:=of_decide_eq_false (e517.trans h518);have hnk:n503=k:=(by omega);subst hnk;have hb:=s506;have hnb:¬ badB n503 b504:=(by unfold badB;omega);have x1:v512=((b504.toNat%128:Nat):Int):=(by rw [← e512,← e511,and8,wu64];omega);have x2:v513=((7*n503:Nat):Int):=(by rw [← e513,hi,wri (by omega)];omega);have x3:v516=((c+2 ^ (7*n503)*(b504.toNat%128):Nat):Int):=(by rw [← e516,← e515,x1,x2,hc];exact rd_or hJ hnb);have x4:v519=((n503+1:Nat):Int):=(by rw [← e519,hi,wri (by omega)];omega);have hbl:=b504.toNat_lt)
     ·show (10 - v519).toNat<(10 - i).toNat
      omega
     ·exact ⟨n503+1,_,x4,(by rw [x3,show b504.toNat%128=b504.toNat - 128 by omega]),qX hJ hb hnb (by omega)⟩
 | false =>
  refine .inl (Or.inr (Or.inr (Or.inr (⟨v501,e501,h502,trivial⟩))))
theorem zex {w0:World} (l:(List UInt8)) (v1:Int) (v2:Int) (e1:(((l:List UInt8).length:Int))=v1) (e2:((if v1<(10:Int) then v1 else (10:Int)))=v2) (L_wrB:∀R:Frm,R.pm=⟨ntOf Tryz.prog 36,[0],[]⟩→zg (KN w0) Tryz.prog (FL [pS l,pI v1,pI v2] []) R wrB_S (lp Tryz.prog 36 0)):BFun false (KN w0) Tryz.prog 36 [.o (.c (.p 0 0))] [(62,[.d (pS l),.d (pV (.bool false))])] (.o (.c (.d (pV (.int .i64 0))))) [(62,[.d (pV (.string ⟨#[]⟩)),.d (pV (.bool true))])] :=
 con_b (pan:=false) (z8 (F:=FL [pS l,pI v1,pI v2] []) (C:=[(1000002,.call ⟨23,[.o (.c (.p 0 0))],[.bx 0 62 [.h 0,.k (.bool false)]],.o (.c (.k (.bool false))),[.bx 0 62 [.h 0,.k (.bool false)]]⟩),
  (1000008,.op (.len [9] 3) [LF (.h 0)] [] (LF (.h 1))),
  (1000009,.op (.min [3,3] 3) [LF (.k (.int .i64 10)),LF (.h 1)] [] (LF (.h 2))),
  (1001012,.call ⟨67,[.o (.c (.p 0 0))],[.bx 0 62 [.h 0,.k (.bool false)]],.t [],[.bx 0 62 [.k (.string ⟨#[]⟩),.k (.bool true)]]⟩)]) (k:=⟨36,[.o (.c (.p 0 0))],[.bx 0 62 [.h 0,.k (.bool false)]],.o (.c (.k (.int .i64 0))),[.bx 0 62 [.k (.string ⟨#[]⟩),.k (.bool true)]]⟩) ⟨[wrB_S],[],0⟩ [] 0 (zf ⟨zb rfl,zb rfl,zb rfl,trivial⟩) ⟨b_con (pan:=false) (zbU (some l)) (by kernel_rfl) rfl rfl rfl rfl,
  e_op1 (za rfl) (za rfl) (fun W=>by rw [← e1];exact zhL (by kernel_rfl) W),
  e_op2 zd (za rfl) (za rfl) (fun W=>by rw [← e2];exact zmz W),
  b_con (pan:=false) (zc2 (some l)) (by kernel_rfl) rfl rfl rfl rfl,
  trivial⟩ mixed trivial (fun R hR p hp s hs=>by
 have hl:zH (qg Tryz.prog 36)=[(5,lp Tryz.prog 36 0)]:=by kernel_rfl
 rw [hl] at hp
 simp only [List.mem_cons,List.not_mem_nil,or_false] at hp
 rcases hp with rfl
 ·have e:s=wrB_S:=(Option.some.inj hs).symm
  subst e;exact L_wrB R hR) (by kernel_rfl)) (by kernel_rfl) rfl rfl rfl rfl
theorem zey {w0:World} (l:(List UInt8)) (v1:Int) (v2:Int) (o:Int) (l2:(List UInt8)) (e1:(((l:List UInt8).length:Int))=v1) (e2:((if v1<(10:Int) then v1 else (10:Int)))=v2) (L_wrA:∀R:Frm,R.pm=⟨ntOf Tryz.prog 36,[0],[]⟩→zg (KN w0) Tryz.prog (FL [pS l,pI v1,pI v2,pI o,pS l2] []) R wrA_S (lp Tryz.prog 36 0)):BFun false (KN w0) Tryz.prog 36 [.o (.c (.p 0 0))] [(62,[.d (pS l),.d (pV (.bool false))])] (.o (.c (.d (pI o)))) [(62,[.d (pS l2),.d (pV (.bool false))])] :=
 con_b (pan:=false) (z8 (F:=FL [pS l,pI v1,pI v2,pI o,pS l2] []) (C:=[(1000002,.call ⟨23,[.o (.c (.p 0 0))],[.bx 0 62 [.h 0,.k (.bool false)]],.o (.c (.k (.bool false))),[.bx 0 62 [.h 0,.k (.bool false)]]⟩),
  (1000008,.op (.len [9] 3) [LF (.h 0)] [] (LF (.h 1))),
  (1000009,.op (.min [3,3] 3) [LF (.k (.int .i64 10)),LF (.h 1)] [] (LF (.h 2)))]) (k:=⟨36,[.o (.c (.p 0 0))],[.bx 0 62 [.h 0,.k (.bool false)]],.o (.c (.h 3)),[.bx 0 62 [.h 4,.k (.bool false)]]⟩) ⟨[wrA_S],[],0⟩ [] 0 (zf ⟨zb rfl,zb rfl,zb rfl,zb rfl,zb rfl,trivial⟩) ⟨b_con (pan:=false) (zbU (some l)) (by kernel_rfl) rfl rfl rfl rfl,
  e_op1 (za rfl) (za rfl) (fun W=>by rw [← e1];exact zhL (by kernel_rfl) W),
  e_op2 zd (za rfl) (za rfl) (fun W=>by rw [← e2];exact zmz W),
  trivial⟩ mixed trivial (fun R hR p hp s hs=>by
 have hl:zH (qg Tryz.prog 36)=[(5,lp Tryz.prog 36 0)]:=by kernel_rfl
 rw [hl] at hp
 simp only [List.mem_cons,List.not_mem_nil,or_false] at hp
 rcases hp with rfl
 ·have e:s=wrA_S:=(Option.some.inj hs).symm
  subst e;exact L_wrA R hR) (by kernel_rfl)) (by kernel_rfl) rfl rfl rfl rfl
theorem ziN {w0:World} (l:List UInt8) (r:Int) (st2:St) (hr:(rdI (some l)).1=r) (hs:(rdI (some l)).2=st2):BFun false (KN w0) Tryz.prog 36 [.o (.c (.p 0 0))] [(62,[.d (pS l),.d (pV (.bool false))])] (.o (.c (.d (pI r)))) [(62,[.d (pS (lfO st2)),.d (pB (bdO st2))])]:=by
 obtain ⟨v1,e1⟩:∃v,(((l:List UInt8).length:Int))=v:=⟨_,rfl⟩
 obtain ⟨v2,e2⟩:∃v,((if v1<(10:Int) then v1 else (10:Int)))=v:=⟨_,rfl⟩
 by_cases c5:(decGo 0 l).isSome=true
 ·
  obtain ⟨o,l2,hO_wrA⟩:∃(o:Int) (l2:(List UInt8)),decI l=some (o,l2):=(by unfold decI;cases hz:decGo 0 l with | none=>(rw [hz] at c5;cases c5) | some x=>exact ⟨_,_,rfl⟩)
  have r0:r=o:=by
   first | rw [← hr] | rw [← hs]
   simp only [rdI,hO_wrA]
  have r1:st2=some l2:=by
   first | rw [← hr] | rw [← hs]
   simp only [rdI,hO_wrA]
  rw [r0,r1];exact zey l v1 v2 o l2 e1 e2 (fun R hR=>zoM l v1 v2  o l2 rfl rfl rfl rfl rfl R hR e1 e2 c5 hO_wrA)
 ·
  have r0:r=(0:Int):=by
   have hn:decI l=none:=(by unfold decI;cases hz:decGo 0 l with | none=>rfl | some x=>(rw [hz] at c5;exact absurd rfl c5))
   first | rw [← hr] | rw [← hs]
   simp only [rdI,hn]
  have r1:st2=none:=by
   have hn:decI l=none:=(by unfold decI;cases hz:decGo 0 l with | none=>rfl | some x=>(rw [hz] at c5;exact absurd rfl c5))
   first | rw [← hr] | rw [← hs]
   simp only [rdI,hn]
  rw [r0,r1];exact zex l v1 v2 e1 e2 (fun R hR=>zoU l v1 v2   rfl rfl rfl R hR e1 e2 c5)
theorem zdd {w0:World}:BFun false (KN w0) Tryz.prog 36 [.o (.c (.p 0 0))] [(62,[.d (pV (.string ⟨#[]⟩)),.d (pV (.bool true))])] (.o (.c (.d (pV (.int .i64 0))))) [(62,[.d (pV (.string ⟨#[]⟩)),.d (pV (.bool true))])] :=
 con_b (pan:=false) (zl (F:=FL [] []) (C:=[(1000002,.call ⟨23,[.o (.c (.p 0 0))],[.bx 0 62 [.k (.string ⟨#[]⟩),.k (.bool true)]],.o (.c (.k (.bool true))),[.bx 0 62 [.k (.string ⟨#[]⟩),.k (.bool true)]]⟩)]) (k:=⟨36,[.o (.c (.p 0 0))],[.bx 0 62 [.k (.string ⟨#[]⟩),.k (.bool true)]],.o (.c (.k (.int .i64 0))),[.bx 0 62 [.k (.string ⟨#[]⟩),.k (.bool true)]]⟩) 0 (zf trivial) ⟨b_con (pan:=false) (zbU none) (by kernel_rfl) rfl rfl rfl rfl,
  trivial⟩ mixed (by kernel_rfl)) (by kernel_rfl) rfl rfl rfl rfl
theorem zg8 {w0:World} (r:Int) (st2:St) (hr:(rdI none).1=r) (hs:(rdI none).2=st2):BFun false (KN w0) Tryz.prog 36 [.o (.c (.p 0 0))] [(62,[.d (pV (.string ⟨#[]⟩)),.d (pV (.bool true))])] (.o (.c (.d (pI r)))) [(62,[.d (pS (lfO st2)),.d (pB (bdO st2))])]:=by
 have r0:r=(0:Int):=by
  first | rw [← hr] | rw [← hs]
  rfl
 have r1:st2=none:=by
  first | rw [← hr] | rw [← hs]
  rfl
 rw [r0,r1];exact zdd
theorem qu {w0:World} (st:St) (r:Int) (st2:St) (hr:(rdI st).1=r) (hs:(rdI st).2=st2):BFun false (KN w0) Tryz.prog 36 [.o (.c (.p 0 0))] [(62,[.d (pS (lfO st)),.d (pB (bdO st))])] (.o (.c (.d (pI r)))) [(62,[.d (pS (lfO st2)),.d (pB (bdO st2))])]:=by
 cases st with
 | none=>exact zg8 r st2 hr hs
 | some l=>exact ziN l r st2 hr hs
end Go.Proofs.YtjcegdldgjphiaaGreatDoor
