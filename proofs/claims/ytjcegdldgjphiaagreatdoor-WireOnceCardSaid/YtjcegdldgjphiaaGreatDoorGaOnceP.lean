/-
  WireOnce is proved: whatever the input, the law returns true and each argument reads as it did, where the listed variables read as listed; and the card, which ties it to the program's text.
-/
import Derived.Test.YtjcegdldgjphiaaGreatDoorGaAZ
import Derived.Test.YtjcegdldgjphiaaGreatDoorCards
import Derived.Test.YtjcegdldgjphiaaGreatDoorTie
import Derived.SevenTiedAt
set_option linter.unusedSimpArgs false
set_option linter.unusedVariables false
set_option maxRecDepth 100000
set_option maxHeartbeats 4000000
namespace Go.Proofs.YtjcegdldgjphiaaGreatDoor
open Go.RowKit Go.Shelf
theorem zuK {st:St} (h:(!bdO st)=false):st=none:=by cases st with | none=>rfl | some l=>cases h
theorem zuL {st:St} (h:(!bdO st)=true):∃l,st=some l:=by cases st with | none=>cases h | some l=>exact ⟨l,rfl⟩
theorem tk200 (s:List UInt8):(s.take (min s.length 200)).length≤200:=by rw [List.length_take];omega
theorem zpf {c:Int} {T:List UInt8} (hT:T.length≤200) (d:(!bdO (callS c (some T)))=true) :
  0≤IntKind.i64.wrap ((T.length:Int) - (leftN (callS c (some T)):Int))∧IntKind.i64.wrap ((T.length:Int) - (leftN (callS c (some T)):Int))≤(T.length:Int)∧T.take (IntKind.i64.wrap ((T.length:Int) - (leftN (callS c (some T)):Int))).toNat=agS c (some T):=by
 obtain ⟨r,hr⟩:=zuL d
 have h:=zvo hr
 have hl:T.length=(agS c (some T)).length+r.length:=by
  have:=congrArg List.length h
  rwa [List.length_append] at this
 rw [hr]
 show 0≤IntKind.i64.wrap ((T.length:Int) - (r.length:Int))∧IntKind.i64.wrap ((T.length:Int) - (r.length:Int))≤(T.length:Int)∧T.take (IntKind.i64.wrap ((T.length:Int) - (r.length:Int))).toNat=_
 rw [wri (by omega)]
 refine ⟨by omega,by omega,?_⟩
 rw [show ((T.length:Int) - (r.length:Int)).toNat=(agS c (some T)).length by omega]
 generalize agS c (some T)=a at *
 rw [h,List.take_left]
structure wo_l_T where
 k:Int
 z:St
def zpk:List Atom:=(.sl 0 (.o (.c (.h 4)))::.sl 1 (.o (.c (.h 1)))::.sl 5 (.o (.c (.k (.bool true))))::.sl 6 (.o (.c (.p 10 0)))::.sl 7 (.o (.c (.h 13)))::.sl 9 (.o (.c (.h 18)))::.sl 10 (.o (.c (.k (.bool true))))::.sl 11 (.o (.c (.h 0)))::.sl 12 (.o (.c (.h 0)))::.sl 13 (.o (.c (.h 2)))::.sl 14 (.o (.c (.h 3)))::.sl 15 (.o (.c (.h 4)))::.sl 16 (.o (.c (.h 4)))::.sl 17 (.o (.c (.p 10 0)))::.sl 18 (.o (.c (.p 10 0)))::.sl 19 (.o (.c (.k (.bool false))))::.sl 20 (.o (.c (.k (.bool false))))::.sl 21 (.o (.c (.p 10 0)))::.sl 22 (.o (.c (.h 7)))::.sl 23 (.o (.c (.h 7)))::.sl 24 (.o (.c (.h 7)))::.sl 25 (.o (.c (.p 10 0)))::.sl 26 (.o (.c (.h 8)))::.sl 27 (.o (.c (.h 4)))::.sl 28 (.o (.c (.h 9)))::.sl 29 (.o (.c (.h 10)))::.sl 30 (.o (.c (.h 10)))::.sl 31 (.o (.c (.p 10 0)))::.sl 32 (.o (.c (.h 1)))::.sl 33 (.o (.c (.h 11)))::.sl 34 (.o (.c (.h 12)))::.sl 35 (.o (.c (.h 13)))::.sl 36 (.o (.c (.p 10 0)))::.sl 37 (.o (.c (.h 16)))::.sl 38 (.o (.c (.h 17)))::.bx 10 62 [.h 19,.h 20]::[]:List Atom)
def zq4:LoopS:=⟨11,(.sl 0 (.o (.c (.h 4)))::.sl 1 (.o (.c (.h 1)))::.sl 5 (.o (.c (.k (.bool true))))::.sl 6 (.o (.c (.p 10 0)))::.sl 7 (.o (.c (.h 13)))::.sl 9 (.o (.c (.k (.int .i64 0))))::.sl 10 (.o (.c (.k (.bool true))))::.sl 11 (.o (.c (.h 0)))::.sl 12 (.o (.c (.h 0)))::.sl 13 (.o (.c (.h 2)))::.sl 14 (.o (.c (.h 3)))::.sl 15 (.o (.c (.h 4)))::.sl 16 (.o (.c (.h 4)))::.sl 17 (.o (.c (.p 10 0)))::.sl 18 (.o (.c (.p 10 0)))::.sl 19 (.o (.c (.k (.bool false))))::.sl 20 (.o (.c (.k (.bool false))))::.sl 21 (.o (.c (.p 10 0)))::.sl 22 (.o (.c (.h 7)))::.sl 23 (.o (.c (.h 7)))::.sl 24 (.o (.c (.h 7)))::.sl 25 (.o (.c (.p 10 0)))::.sl 26 (.o (.c (.h 8)))::.sl 27 (.o (.c (.h 4)))::.sl 28 (.o (.c (.h 9)))::.sl 29 (.o (.c (.h 10)))::.sl 30 (.o (.c (.h 10)))::.sl 31 (.o (.c (.p 10 0)))::.sl 32 (.o (.c (.h 1)))::.sl 33 (.o (.c (.h 11)))::.sl 34 (.o (.c (.h 12)))::.sl 35 (.o (.c (.h 13)))::.sl 36 (.o (.c (.p 10 0)))::.sl 37 (.o (.c (.h 16)))::.sl 38 (.o (.c (.h 17)))::.bx 10 62 [.h 14,.h 15]::[]:List Atom),(.x 0),(.sl 0 (.o (.c (.h 4)))::.sl 1 (.o (.c (.h 1)))::.sl 5 (.o (.c (.k (.bool true))))::.sl 6 (.o (.c (.p 10 0)))::.sl 7 (.o (.c (.h 13)))::.sl 10 (.o (.c (.k (.bool true))))::.sl 11 (.o (.c (.h 0)))::.sl 12 (.o (.c (.h 0)))::.sl 13 (.o (.c (.h 2)))::.sl 14 (.o (.c (.h 3)))::.sl 15 (.o (.c (.h 4)))::.sl 16 (.o (.c (.h 4)))::.sl 17 (.o (.c (.p 10 0)))::.sl 18 (.o (.c (.p 10 0)))::.sl 19 (.o (.c (.k (.bool false))))::.sl 20 (.o (.c (.k (.bool false))))::.sl 21 (.o (.c (.p 10 0)))::.sl 22 (.o (.c (.h 7)))::.sl 23 (.o (.c (.h 7)))::.sl 24 (.o (.c (.h 7)))::.sl 25 (.o (.c (.p 10 0)))::.sl 26 (.o (.c (.h 8)))::.sl 27 (.o (.c (.h 4)))::.sl 28 (.o (.c (.h 9)))::.sl 29 (.o (.c (.h 10)))::.sl 30 (.o (.c (.h 10)))::.sl 31 (.o (.c (.p 10 0)))::.sl 32 (.o (.c (.h 1)))::.sl 33 (.o (.c (.h 11)))::.sl 34 (.o (.c (.h 12)))::.sl 35 (.o (.c (.h 13)))::.sl 36 (.o (.c (.p 10 0)))::.sl 37 (.o (.c (.h 16)))::.sl 38 (.o (.c (.h 17)))::[]:List Atom)⟩
theorem zwb {w0:World} (hM:∀W,Below w0.heap.size w0 W→MaxT W) (hTS:∀W,Below w0.heap.size w0 W→PowT w0.heap.size W∧SynT w0.heap.size W) (s:(List UInt8)) (c:Int) (v1:Int) (v2:Int) (n3:Nat) (v5:(List UInt8)) (v7:St) (v8:Bool) (v10:Int) (v11:Int) (v12:Bool) (v14:Int) (v15:Int) (v16:(List UInt8)) (v17:St) (v19:Bool) (v20:Bool) (h9:v8=false) (h13:v12=false) (h21:v20=false) (k:Int) (z:St) (v501:Bool) (v503:Bool) (v504:St) (v506:Bool) (v508:Bool) (v509:Bool) (v511:Int) (v512:Bool) (v514:Int) (e501:(decide (k<(6:Int)))=v501) (e503:(nthB k z)=v503) (e504:(callS k z)=v504) (e506:(!v503)=v506) (e508:(bdO v504)=v508) (e509:(!v508)=v509) (e511:((leftN v504:Int))=v511) (e512:((v511 != (0:Int)))=v512) (e514:(IntKind.i64.wrap (k+(1:Int)))=v514) (h502:v501=true) (s505:leftN z≤1000000) (h507:v506=false) (h510:v509=false) (h513:v512=false) (k':Int) (z':St) (q0:(v514)=k') (q1:(v504)=z') (R:Frm) (hR:R.pm=⟨ntOf Tryz.prog 6,[],[]⟩):Goes (KN w0) Tryz.prog R (lp Tryz.prog 6 0) (FL [pS s,pV (.int .u8 c),pI v1,pI v2,pS v5,pS (lfO v7),pB (bdO v7),pB v8,pI v10,pI v11,pB v12,pI v14,pI v15,pS v16,pS (lfO v17),pB (bdO v17),pB v19,pB v20,pI k,pS (lfO z),pB (bdO z)] []) zpk .n (FL [pS s,pV (.int .u8 c),pI v1,pI v2,pS v5,pS (lfO v7),pB (bdO v7),pB v8,pI v10,pI v11,pB v12,pI v14,pI v15,pS v16,pS (lfO v17),pB (bdO v17),pB v19,pB v20,pI k',pS (lfO z'),pB (bdO z')] []) zpk:=
 goes (x:=.n) (y:=.n) (Fb:=FL [pS s,pV (.int .u8 c),pI v1,pI v2,pS v5,pS (lfO v7),pB (bdO v7),pB v8,pI v10,pI v11,pB v12,pI v14,pI v15,pS v16,pS (lfO v17),pB (bdO v17),pB v19,pB v20,pI k,pS (lfO z),pB (bdO z),pB v501,pB v503,pS (lfO v504),pB (bdO v504),pB v506,pB v508,pB v509,pI v511,pB v512,pI v514] []) (stb:=zpk) (tl:=(.sl 0 (.o (.c (.h 4)))::.sl 1 (.o (.c (.h 1)))::.sl 5 (.o (.c (.k (.bool true))))::.sl 6 (.o (.c (.p 10 0)))::.sl 7 (.o (.c (.h 13)))::.sl 9 (.o (.c (.h 30)))::.sl 10 (.o (.c (.k (.bool true))))::.sl 11 (.o (.c (.h 0)))::.sl 12 (.o (.c (.h 0)))::.sl 13 (.o (.c (.h 2)))::.sl 14 (.o (.c (.h 3)))::.sl 15 (.o (.c (.h 4)))::.sl 16 (.o (.c (.h 4)))::.sl 17 (.o (.c (.p 10 0)))::.sl 18 (.o (.c (.p 10 0)))::.sl 19 (.o (.c (.k (.bool false))))::.sl 20 (.o (.c (.k (.bool false))))::.sl 21 (.o (.c (.p 10 0)))::.sl 22 (.o (.c (.h 7)))::.sl 23 (.o (.c (.h 7)))::.sl 24 (.o (.c (.h 7)))::.sl 25 (.o (.c (.p 10 0)))::.sl 26 (.o (.c (.h 8)))::.sl 27 (.o (.c (.h 4)))::.sl 28 (.o (.c (.h 9)))::.sl 29 (.o (.c (.h 10)))::.sl 30 (.o (.c (.h 10)))::.sl 31 (.o (.c (.p 10 0)))::.sl 32 (.o (.c (.h 1)))::.sl 33 (.o (.c (.h 11)))::.sl 34 (.o (.c (.h 12)))::.sl 35 (.o (.c (.h 13)))::.sl 36 (.o (.c (.p 10 0)))::.sl 37 (.o (.c (.h 16)))::.sl 38 (.o (.c (.h 17)))::.bx 10 62 [.h 23,.h 24]::[]:List Atom)) (C:=((10007,.fb 7 false) ::
  (10010,.fb 10 false) ::
  (10017,.fb 17 false) ::
  (1005001,.bin .lss 3 (LF (.h 18)) (LF (.k (.int .i64 6))) (LF (.h 21))) ::
  (10021,.fb 21 true) ::
  (1005004,.call ⟨27,[.o (.c (.p 10 0)),.o (.c (.h 18))],[.bx 10 62 [.h 19,.h 20]],.o (.c (.h 22)),[.bx 10 62 [.h 23,.h 24]]⟩) ::
  (1005005,.un .not (LF (.h 22)) (LF (.h 25))) ::
  (10025,.fb 25 false) ::
  (1005008,.call ⟨23,[.o (.c (.p 10 0))],[.bx 10 62 [.h 23,.h 24]],.o (.c (.h 26)),[.bx 10 62 [.h 23,.h 24]]⟩) ::
  (1005009,.un .not (LF (.h 26)) (LF (.h 27))) ::
  (10027,.fb 27 false) ::
  (1005013,.call ⟨21,[.o (.c (.p 10 0))],[.bx 10 62 [.h 23,.h 24]],.o (.c (.h 28)),[.bx 10 62 [.h 23,.h 24]]⟩) ::
  (1005014,.bin .neq 3 (LF (.h 28)) (LF (.k (.int .i64 0))) (LF (.h 29))) ::
  (10029,.fb 29 false) ::
  (1005017,.bin .add 3 (LF (.h 18)) (LF (.k (.int .i64 1))) (LF (.h 30))) ::
  []:List (Nat×Ent))) (H:=.no) 5000 (zipA.imp ⟨z_c (fun _ _ _ h=>h),z_c (fun _ _ _ h=>h),z_c (fun _ _ _ h=>h),z_c (fun _ _ _ h=>h),z_c (fun _ _ _ h=>h),z_c (fun _ _ _ h=>h),z_c (fun _ _ _ h=>h),z_c (fun _ _ _ h=>h),z_c (fun _ _ _ h=>h),z_c (fun _ _ _ h=>h),z_c (fun _ _ _ h=>h),z_c (fun _ _ _ h=>h),z_c (fun _ _ _ h=>h),z_c (fun _ _ _ h=>h),z_c (fun _ _ _ h=>h),z_c (fun _ _ _ h=>h),z_c (fun _ _ _ h=>h),z_c (fun _ _ _ h=>h),z_c (fun _ _ _ h=>h),z_c (fun _ _ _ h=>h),z_c (fun _ _ _ h=>h),z_c (fun _ _ _ h=>h),z_c (fun _ _ _ h=>h),z_c (fun _ _ _ h=>h),z_c (fun _ _ _ h=>h),z_c (fun _ _ _ h=>h),z_c (fun _ _ _ h=>h),z_c (fun _ _ _ h=>h),z_c (fun _ _ _ h=>h),z_c (fun _ _ _ h=>h),z_c (fun _ _ _ h=>h),z_c (fun _ _ _ h=>h),z_c (fun _ _ _ h=>h),z_c (fun _ _ _ h=>h),z_c (fun _ _ _ h=>h),z_b ⟨fun _ _ _ h=>h,fun _ _ _ h=>h,trivial⟩,trivial⟩) (zf ⟨zb rfl,zb rfl,zb rfl,zb rfl,zb rfl,zb rfl,zb rfl,zb rfl,zb rfl,zb rfl,zb rfl,zb rfl,zb rfl,zb rfl,zb rfl,zb rfl,zb rfl,zb rfl,zb rfl,zb rfl,zb rfl,zb rfl,zb rfl,zb rfl,zb rfl,zb rfl,zb rfl,zb rfl,zb rfl,zb rfl,zb rfl,trivial⟩) ⟨e_fb (show pV (.bool v8)=_ by rw [h9]),
  e_fb (show pV (.bool v12)=_ by rw [h13]),
  e_fb (show pV (.bool v20)=_ by rw [h21]),
  e_bin (za rfl) zd (za rfl) (r_cmp (congrArg some e501)),
  e_fb (show pV (.bool v501)=_ by rw [h502]),
  b_con (pan:=false) (zbu hM hTS k z v503 v504 e503 e504 s505) (by kernel_rfl) rfl rfl rfl rfl,
  e_un (za rfl) (za rfl) (fun W=>by rw [← e506];exact r_not W),
  e_fb (show pV (.bool v506)=_ by rw [h507]),
  b_con (pan:=false) (w_bad v504 v508 e508) (by kernel_rfl) rfl rfl rfl rfl,
  e_un (za rfl) (za rfl) (fun W=>by rw [← e509];exact r_not W),
  e_fb (show pV (.bool v509)=_ by rw [h510]),
  b_con (pan:=false) (zcU v504 v511 e511) (by kernel_rfl) rfl rfl rfl rfl,
  e_bin (za rfl) zd (za rfl) (r_cmp (congrArg some e512)),
  e_fb (show pV (.bool v512)=_ by rw [h513]),
  e_bin (za rfl) zd (za rfl) (r_ar (congrArg some e514)),
  trivial⟩ mixed hR trivial (fun _ _ _ hs=>by cases hs) (by kernel_rfl:zz (KN w0) Tryz.prog _ .no ⟨ntOf Tryz.prog 6,[],[]⟩ (lp Tryz.prog 6 0) 5000 zpk .n (.sl 0 (.o (.c (.h 4)))::.sl 1 (.o (.c (.h 1)))::.sl 5 (.o (.c (.k (.bool true))))::.sl 6 (.o (.c (.p 10 0)))::.sl 7 (.o (.c (.h 13)))::.sl 9 (.o (.c (.h 30)))::.sl 10 (.o (.c (.k (.bool true))))::.sl 11 (.o (.c (.h 0)))::.sl 12 (.o (.c (.h 0)))::.sl 13 (.o (.c (.h 2)))::.sl 14 (.o (.c (.h 3)))::.sl 15 (.o (.c (.h 4)))::.sl 16 (.o (.c (.h 4)))::.sl 17 (.o (.c (.p 10 0)))::.sl 18 (.o (.c (.p 10 0)))::.sl 19 (.o (.c (.k (.bool false))))::.sl 20 (.o (.c (.k (.bool false))))::.sl 21 (.o (.c (.p 10 0)))::.sl 22 (.o (.c (.h 7)))::.sl 23 (.o (.c (.h 7)))::.sl 24 (.o (.c (.h 7)))::.sl 25 (.o (.c (.p 10 0)))::.sl 26 (.o (.c (.h 8)))::.sl 27 (.o (.c (.h 4)))::.sl 28 (.o (.c (.h 9)))::.sl 29 (.o (.c (.h 10)))::.sl 30 (.o (.c (.h 10)))::.sl 31 (.o (.c (.p 10 0)))::.sl 32 (.o (.c (.h 1)))::.sl 33 (.o (.c (.h 11)))::.sl 34 (.o (.c (.h 12)))::.sl 35 (.o (.c (.h 13)))::.sl 36 (.o (.c (.p 10 0)))::.sl 37 (.o (.c (.h 16)))::.sl 38 (.o (.c (.h 17)))::.bx 10 62 [.h 23,.h 24]::[]:List Atom)=true) rfl (zipA.imp ⟨z_c (fun _ _ _ h=>h),z_c (fun _ _ _ h=>h),z_c (fun _ _ _ h=>h),z_c (fun _ _ _ h=>h),z_c (fun _ _ _ h=>h),z_c (fun β v W h=>(zc rfl β v W).2 (by rw [← q0];exact h)),z_c (fun _ _ _ h=>h),z_c (fun _ _ _ h=>h),z_c (fun _ _ _ h=>h),z_c (fun _ _ _ h=>h),z_c (fun _ _ _ h=>h),z_c (fun _ _ _ h=>h),z_c (fun _ _ _ h=>h),z_c (fun _ _ _ h=>h),z_c (fun _ _ _ h=>h),z_c (fun _ _ _ h=>h),z_c (fun _ _ _ h=>h),z_c (fun _ _ _ h=>h),z_c (fun _ _ _ h=>h),z_c (fun _ _ _ h=>h),z_c (fun _ _ _ h=>h),z_c (fun _ _ _ h=>h),z_c (fun _ _ _ h=>h),z_c (fun _ _ _ h=>h),z_c (fun _ _ _ h=>h),z_c (fun _ _ _ h=>h),z_c (fun _ _ _ h=>h),z_c (fun _ _ _ h=>h),z_c (fun _ _ _ h=>h),z_c (fun _ _ _ h=>h),z_c (fun _ _ _ h=>h),z_c (fun _ _ _ h=>h),z_c (fun _ _ _ h=>h),z_c (fun _ _ _ h=>h),z_c (fun _ _ _ h=>h),z_b ⟨fun β v W h=>(zc rfl β v W).2 (by rw [← q1];exact h),fun β v W h=>(zc rfl β v W).2 (by rw [← q1];exact h),trivial⟩,trivial⟩)
theorem zwc {w0:World} (hM:∀W,Below w0.heap.size w0 W→MaxT W) (hTS:∀W,Below w0.heap.size w0 W→PowT w0.heap.size W∧SynT w0.heap.size W) (s:(List UInt8)) (c:Int) (v1:Int) (v2:Int) (n3:Nat) (v5:(List UInt8)) (v7:St) (v8:Bool) (v10:Int) (v11:Int) (v12:Bool) (v14:Int) (v15:Int) (v16:(List UInt8)) (v17:St) (v19:Bool) (v20:Bool) (h9:v8=false) (h13:v12=false) (h21:v20=false) (k:Int) (z:St) (v501:Bool) (e501:(decide (k<(6:Int)))=v501) (h502:v501=false) (F:Fact) (u0:F.c 0=pS s) (u1:F.c 1=pV (.int .u8 c)) (u2:F.c 2=pI v1) (u3:F.c 3=pI v2) (u4:F.c 4=pS v5) (u7:F.c 7=pB v8) (u8:F.c 8=pI v10) (u9:F.c 9=pI v11) (u10:F.c 10=pB v12) (u11:F.c 11=pI v14) (u12:F.c 12=pI v15) (u13:F.c 13=pS v16) (u14:F.c 14=pS (lfO v17)) (u15:F.c 15=pB (bdO v17)) (u16:F.c 16=pB v19) (u17:F.c 17=pB v20) (R:Frm) (hR:R.pm=⟨ntOf Tryz.prog 6,[],[]⟩):Goes (KN w0) Tryz.prog R (lp Tryz.prog 6 0) (FL [pS s,pV (.int .u8 c),pI v1,pI v2,pS v5,pS (lfO v7),pB (bdO v7),pB v8,pI v10,pI v11,pB v12,pI v14,pI v15,pS v16,pS (lfO v17),pB (bdO v17),pB v19,pB v20,pI k,pS (lfO z),pB (bdO z)] []) zpk (.x 0) F zq4.out:=
 goes (x:=(.x 0)) (y:=(.x 0)) (Fb:=FL [pS s,pV (.int .u8 c),pI v1,pI v2,pS v5,pS (lfO v7),pB (bdO v7),pB v8,pI v10,pI v11,pB v12,pI v14,pI v15,pS v16,pS (lfO v17),pB (bdO v17),pB v19,pB v20,pI k,pS (lfO z),pB (bdO z),pB v501] []) (stb:=zpk) (tl:=(.sl 0 (.o (.c (.h 4)))::.sl 1 (.o (.c (.h 1)))::.sl 5 (.o (.c (.k (.bool true))))::.sl 6 (.o (.c (.p 10 0)))::.sl 7 (.o (.c (.h 13)))::.sl 10 (.o (.c (.k (.bool true))))::.sl 11 (.o (.c (.h 0)))::.sl 12 (.o (.c (.h 0)))::.sl 13 (.o (.c (.h 2)))::.sl 14 (.o (.c (.h 3)))::.sl 15 (.o (.c (.h 4)))::.sl 16 (.o (.c (.h 4)))::.sl 17 (.o (.c (.p 10 0)))::.sl 18 (.o (.c (.p 10 0)))::.sl 19 (.o (.c (.k (.bool false))))::.sl 20 (.o (.c (.k (.bool false))))::.sl 21 (.o (.c (.p 10 0)))::.sl 22 (.o (.c (.h 7)))::.sl 23 (.o (.c (.h 7)))::.sl 24 (.o (.c (.h 7)))::.sl 25 (.o (.c (.p 10 0)))::.sl 26 (.o (.c (.h 8)))::.sl 27 (.o (.c (.h 4)))::.sl 28 (.o (.c (.h 9)))::.sl 29 (.o (.c (.h 10)))::.sl 30 (.o (.c (.h 10)))::.sl 31 (.o (.c (.p 10 0)))::.sl 32 (.o (.c (.h 1)))::.sl 33 (.o (.c (.h 11)))::.sl 34 (.o (.c (.h 12)))::.sl 35 (.o (.c (.h 13)))::.sl 36 (.o (.c (.p 10 0)))::.sl 37 (.o (.c (.h 16)))::.sl 38 (.o (.c (.h 17)))::[]:List Atom)) (C:=((10007,.fb 7 false) ::
  (10010,.fb 10 false) ::
  (10017,.fb 17 false) ::
  (1005001,.bin .lss 3 (LF (.h 18)) (LF (.k (.int .i64 6))) (LF (.h 21))) ::
  (10021,.fb 21 false) ::
  []:List (Nat×Ent))) (H:=.no) 5000 (zipA.imp ⟨z_c (fun _ _ _ h=>h),z_c (fun _ _ _ h=>h),z_c (fun _ _ _ h=>h),z_c (fun _ _ _ h=>h),z_c (fun _ _ _ h=>h),z_c (fun _ _ _ h=>h),z_c (fun _ _ _ h=>h),z_c (fun _ _ _ h=>h),z_c (fun _ _ _ h=>h),z_c (fun _ _ _ h=>h),z_c (fun _ _ _ h=>h),z_c (fun _ _ _ h=>h),z_c (fun _ _ _ h=>h),z_c (fun _ _ _ h=>h),z_c (fun _ _ _ h=>h),z_c (fun _ _ _ h=>h),z_c (fun _ _ _ h=>h),z_c (fun _ _ _ h=>h),z_c (fun _ _ _ h=>h),z_c (fun _ _ _ h=>h),z_c (fun _ _ _ h=>h),z_c (fun _ _ _ h=>h),z_c (fun _ _ _ h=>h),z_c (fun _ _ _ h=>h),z_c (fun _ _ _ h=>h),z_c (fun _ _ _ h=>h),z_c (fun _ _ _ h=>h),z_c (fun _ _ _ h=>h),z_c (fun _ _ _ h=>h),z_c (fun _ _ _ h=>h),z_c (fun _ _ _ h=>h),z_c (fun _ _ _ h=>h),z_c (fun _ _ _ h=>h),z_c (fun _ _ _ h=>h),z_c (fun _ _ _ h=>h),z_b ⟨fun _ _ _ h=>h,fun _ _ _ h=>h,trivial⟩,trivial⟩) (zf ⟨zb rfl,zb rfl,zb rfl,zb rfl,zb rfl,zb rfl,zb rfl,zb rfl,zb rfl,zb rfl,zb rfl,zb rfl,zb rfl,zb rfl,zb rfl,zb rfl,zb rfl,zb rfl,zb rfl,zb rfl,zb rfl,zb rfl,trivial⟩) ⟨e_fb (show pV (.bool v8)=_ by rw [h9]),
  e_fb (show pV (.bool v12)=_ by rw [h13]),
  e_fb (show pV (.bool v20)=_ by rw [h21]),
  e_bin (za rfl) zd (za rfl) (r_cmp (congrArg some e501)),
  e_fb (show pV (.bool v501)=_ by rw [h502]),
  trivial⟩ mixed hR trivial (fun _ _ _ hs=>by cases hs) (by kernel_rfl:zz (KN w0) Tryz.prog _ .no ⟨ntOf Tryz.prog 6,[],[]⟩ (lp Tryz.prog 6 0) 5000 zpk (.x 0) (.sl 0 (.o (.c (.h 4)))::.sl 1 (.o (.c (.h 1)))::.sl 5 (.o (.c (.k (.bool true))))::.sl 6 (.o (.c (.p 10 0)))::.sl 7 (.o (.c (.h 13)))::.sl 10 (.o (.c (.k (.bool true))))::.sl 11 (.o (.c (.h 0)))::.sl 12 (.o (.c (.h 0)))::.sl 13 (.o (.c (.h 2)))::.sl 14 (.o (.c (.h 3)))::.sl 15 (.o (.c (.h 4)))::.sl 16 (.o (.c (.h 4)))::.sl 17 (.o (.c (.p 10 0)))::.sl 18 (.o (.c (.p 10 0)))::.sl 19 (.o (.c (.k (.bool false))))::.sl 20 (.o (.c (.k (.bool false))))::.sl 21 (.o (.c (.p 10 0)))::.sl 22 (.o (.c (.h 7)))::.sl 23 (.o (.c (.h 7)))::.sl 24 (.o (.c (.h 7)))::.sl 25 (.o (.c (.p 10 0)))::.sl 26 (.o (.c (.h 8)))::.sl 27 (.o (.c (.h 4)))::.sl 28 (.o (.c (.h 9)))::.sl 29 (.o (.c (.h 10)))::.sl 30 (.o (.c (.h 10)))::.sl 31 (.o (.c (.p 10 0)))::.sl 32 (.o (.c (.h 1)))::.sl 33 (.o (.c (.h 11)))::.sl 34 (.o (.c (.h 12)))::.sl 35 (.o (.c (.h 13)))::.sl 36 (.o (.c (.p 10 0)))::.sl 37 (.o (.c (.h 16)))::.sl 38 (.o (.c (.h 17)))::[]:List Atom)=true) rfl (zipA.imp ⟨z_c (fun β v W h=>(zc u4 β v W).2 h),z_c (fun β v W h=>(zc u1 β v W).2 h),z_c (fun _ _ _ h=>h),z_c (fun _ _ _ h=>h),z_c (fun β v W h=>(zc u13 β v W).2 h),z_c (fun _ _ _ h=>h),z_c (fun β v W h=>(zc u0 β v W).2 h),z_c (fun β v W h=>(zc u0 β v W).2 h),z_c (fun β v W h=>(zc u2 β v W).2 h),z_c (fun β v W h=>(zc u3 β v W).2 h),z_c (fun β v W h=>(zc u4 β v W).2 h),z_c (fun β v W h=>(zc u4 β v W).2 h),z_c (fun _ _ _ h=>h),z_c (fun _ _ _ h=>h),z_c (fun _ _ _ h=>h),z_c (fun _ _ _ h=>h),z_c (fun _ _ _ h=>h),z_c (fun β v W h=>(zc u7 β v W).2 h),z_c (fun β v W h=>(zc u7 β v W).2 h),z_c (fun β v W h=>(zc u7 β v W).2 h),z_c (fun _ _ _ h=>h),z_c (fun β v W h=>(zc u8 β v W).2 h),z_c (fun β v W h=>(zc u4 β v W).2 h),z_c (fun β v W h=>(zc u9 β v W).2 h),z_c (fun β v W h=>(zc u10 β v W).2 h),z_c (fun β v W h=>(zc u10 β v W).2 h),z_c (fun _ _ _ h=>h),z_c (fun β v W h=>(zc u1 β v W).2 h),z_c (fun β v W h=>(zc u11 β v W).2 h),z_c (fun β v W h=>(zc u12 β v W).2 h),z_c (fun β v W h=>(zc u13 β v W).2 h),z_c (fun _ _ _ h=>h),z_c (fun β v W h=>(zc u16 β v W).2 h),z_c (fun β v W h=>(zc u17 β v W).2 h),trivial⟩)
def zwF (s:(List UInt8)) (c:Int) (v1:Int) (v2:Int) (n3:Nat) (v5:(List UInt8)) (v7:St) (v8:Bool) (v10:Int) (v11:Int) (v12:Bool) (v14:Int) (v15:Int) (v16:(List UInt8)) (v17:St) (v19:Bool) (v20:Bool) (t:wo_l_T):Prop:=(∃(v501:Bool),((decide (t.k<(6:Int)))=v501)∧(v501=false)∧True)
def zwE (s:(List UInt8)) (c:Int) (v1:Int) (v2:Int) (n3:Nat) (v5:(List UInt8)) (v7:St) (v8:Bool) (v10:Int) (v11:Int) (v12:Bool) (v14:Int) (v15:Int) (v16:(List UInt8)) (v17:St) (v19:Bool) (v20:Bool) (t t':wo_l_T):Prop:=(∃(v501:Bool),∃(v503:Bool),∃(v504:St),∃(v506:Bool),∃(v508:Bool),∃(v509:Bool),∃(v511:Int),∃(v512:Bool),∃(v514:Int),((decide (t.k<(6:Int)))=v501)∧((nthB t.k t.z)=v503)∧((callS t.k t.z)=v504)∧((!v503)=v506)∧((bdO v504)=v508)∧((!v508)=v509)∧(((leftN v504:Int))=v511)∧(((v511 != (0:Int)))=v512)∧((IntKind.i64.wrap (t.k+(1:Int)))=v514)∧(v501=true)∧(leftN t.z≤1000000)∧(v506=false)∧(v509=false)∧(v512=false)∧((v514)=t'.k)∧((v504)=t'.z)∧True)
theorem zuH {w0:World} (hM:∀W,Below w0.heap.size w0 W→MaxT W) (hTS:∀W,Below w0.heap.size w0 W→PowT w0.heap.size W∧SynT w0.heap.size W) (s:(List UInt8)) (c:Int) (v1:Int) (v2:Int) (n3:Nat) (v5:(List UInt8)) (v7:St) (v8:Bool) (v10:Int) (v11:Int) (v12:Bool) (v14:Int) (v15:Int) (v16:(List UInt8)) (v17:St) (v19:Bool) (v20:Bool) (h9:v8=false) (h13:v12=false) (h21:v20=false) {F:Fact} (u0:F.c 0=pS s) (u1:F.c 1=pV (.int .u8 c)) (u2:F.c 2=pI v1) (u3:F.c 3=pI v2) (u4:F.c 4=pS v5) (u7:F.c 7=pB v8) (u8:F.c 8=pI v10) (u9:F.c 9=pI v11) (u10:F.c 10=pB v12) (u11:F.c 11=pI v14) (u12:F.c 12=pI v15) (u13:F.c 13=pS v16) (u14:F.c 14=pS (lfO v17)) (u15:F.c 15=pB (bdO v17)) (u16:F.c 16=pB v19) (u17:F.c 17=pB v20) (R:Frm) (hR:R.pm=⟨ntOf Tryz.prog 6,[],[]⟩) (J:wo_l_T→Prop) (m:wo_l_T→Nat) (hJ:J { k:=(0:Int),z:=v17 }) (rounds:∀t,J t→zwF s c v1 v2 n3 v5 v7 v8 v10 v11 v12 v14 v15 v16 v17 v19 v20 t ∨∃t',zwE s c v1 v2 n3 v5 v7 v8 v10 v11 v12 v14 v15 v16 v17 v19 v20 t t'∧m t'<m t∧J t'):zg (KN w0) Tryz.prog F R zq4 (lp Tryz.prog 6 0):=by
 refine zP (T:=wo_l_T) (fun t=>FL [pS s,pV (.int .u8 c),pI v1,pI v2,pS v5,pS (lfO v7),pB (bdO v7),pB v8,pI v10,pI v11,pB v12,pI v14,pI v15,pS v16,pS (lfO v17),pB (bdO v17),pB v19,pB v20,pI t.k,pS (lfO t.z),pB (bdO t.z)] []) J m { k:=(0:Int),z:=v17 } zpk hJ (zipA.imp ⟨z_c (fun β v W h=>(zc u4 β v W).1 h),z_c (fun β v W h=>(zc u1 β v W).1 h),z_c (fun _ _ _ h=>h),z_c (fun _ _ _ h=>h),z_c (fun β v W h=>(zc u13 β v W).1 h),z_c (fun _ _ _ h=>h),z_c (fun _ _ _ h=>h),z_c (fun β v W h=>(zc u0 β v W).1 h),z_c (fun β v W h=>(zc u0 β v W).1 h),z_c (fun β v W h=>(zc u2 β v W).1 h),z_c (fun β v W h=>(zc u3 β v W).1 h),z_c (fun β v W h=>(zc u4 β v W).1 h),z_c (fun β v W h=>(zc u4 β v W).1 h),z_c (fun _ _ _ h=>h),z_c (fun _ _ _ h=>h),z_c (fun _ _ _ h=>h),z_c (fun _ _ _ h=>h),z_c (fun _ _ _ h=>h),z_c (fun β v W h=>(zc u7 β v W).1 h),z_c (fun β v W h=>(zc u7 β v W).1 h),z_c (fun β v W h=>(zc u7 β v W).1 h),z_c (fun _ _ _ h=>h),z_c (fun β v W h=>(zc u8 β v W).1 h),z_c (fun β v W h=>(zc u4 β v W).1 h),z_c (fun β v W h=>(zc u9 β v W).1 h),z_c (fun β v W h=>(zc u10 β v W).1 h),z_c (fun β v W h=>(zc u10 β v W).1 h),z_c (fun _ _ _ h=>h),z_c (fun β v W h=>(zc u1 β v W).1 h),z_c (fun β v W h=>(zc u11 β v W).1 h),z_c (fun β v W h=>(zc u12 β v W).1 h),z_c (fun β v W h=>(zc u13 β v W).1 h),z_c (fun _ _ _ h=>h),z_c (fun β v W h=>(zc u16 β v W).1 h),z_c (fun β v W h=>(zc u17 β v W).1 h),z_b ⟨fun β v W h=>(zc u14 β v W).1 h,fun β v W h=>(zc u15 β v W).1 h,trivial⟩,trivial⟩) rfl fun t ht=>?_
 rcases rounds t ht with hz_ | ⟨t',hz_,hm_,hj_⟩
 ·refine .inl ?_
  rcases hz_ with ⟨v501,e501,h502,_⟩
  ·exact zwc hM hTS s c v1 v2 n3 v5 v7 v8 v10 v11 v12 v14 v15 v16 v17 v19 v20 h9 h13 h21 t.k t.z v501 e501 h502  F u0 u1 u2 u3 u4 u7 u8 u9 u10 u11 u12 u13 u14 u15 u16 u17  R hR
 ·refine .inr ⟨t',hm_,hj_,?_⟩
  rcases hz_ with ⟨v501,v503,v504,v506,v508,v509,v511,v512,v514,e501,e503,e504,e506,e508,e509,e511,e512,e514,h502,s505,h507,h510,h513,q0,q1,_⟩
  ·exact zwb hM hTS s c v1 v2 n3 v5 v7 v8 v10 v11 v12 v14 v15 v16 v17 v19 v20 h9 h13 h21 t.k t.z v501 v503 v504 v506 v508 v509 v511 v512 v514 e501 e503 e504 e506 e508 e509 e511 e512 e514 h502 s505 h507 h510 h513 t'.k t'.z q0 q1 R hR
theorem zwa {w0:World} (hM:∀W,Below w0.heap.size w0 W→MaxT W) (hTS:∀W,Below w0.heap.size w0 W→PowT w0.heap.size W∧SynT w0.heap.size W) (s:(List UInt8)) (c:Int) (v1:Int) (v2:Int) (n3:Nat) (v5:(List UInt8)) (v7:St) (v8:Bool) (v10:Int) (v11:Int) (v12:Bool) (v14:Int) (v15:Int) (v16:(List UInt8)) (v17:St) (v19:Bool) (v20:Bool) (h9:v8=false) (h13:v12=false) (h21:v20=false) {F:Fact} (u0:F.c 0=pS s) (u1:F.c 1=pV (.int .u8 c)) (u2:F.c 2=pI v1) (u3:F.c 3=pI v2) (u4:F.c 4=pS v5) (u7:F.c 7=pB v8) (u8:F.c 8=pI v10) (u9:F.c 9=pI v11) (u10:F.c 10=pB v12) (u11:F.c 11=pI v14) (u12:F.c 12=pI v15) (u13:F.c 13=pS v16) (u14:F.c 14=pS (lfO v17)) (u15:F.c 15=pB (bdO v17)) (u16:F.c 16=pB v19) (u17:F.c 17=pB v20) (R:Frm) (hR:R.pm=⟨ntOf Tryz.prog 6,[],[]⟩) (hz0:v17=none):zg (KN w0) Tryz.prog F R zq4 (lp Tryz.prog 6 0):=by
 refine zuH hM hTS s c v1 v2 n3 v5 v7 v8 v10 v11 v12 v14 v15 v16 v17 v19 v20 h9 h13 h21  u0 u1 u2 u3 u4 u7 u8 u9 u10 u11 u12 u13 u14 u15 u16 u17 R hR (fun ⟨k,z⟩=>∃n:Nat,k=(n:Int)∧n≤6∧z=none) (fun ⟨k,z⟩=>(6 - k).toNat) ⟨0,rfl,by decide,hz0⟩ fun t hJ=>?_
 obtain ⟨k,z⟩:=t
 dsimp only at hJ
 obtain ⟨n,hk,hn,hz⟩:=hJ
 have q1:nthB k z=true:=by rw [hz];exact zjL k
 have q2:callS k z=none:=by rw [hz];exact zh5 k
 obtain ⟨v501,e501⟩:∃v,(decide (k<(6:Int)))=v:=⟨_,rfl⟩
 cases h502:v501 with
 | true =>
  obtain ⟨v503,e503⟩:∃v,(nthB k z)=v:=⟨_,rfl⟩
  obtain ⟨v504,e504⟩:∃v,(callS k z)=v:=⟨_,rfl⟩
  have s505:leftN z≤1000000:=by (rw [hz];exact Nat.zero_le _)
  obtain ⟨v506,e506⟩:∃v,(!v503)=v:=⟨_,rfl⟩
  cases h507:v506 with
  | true =>
   exfalso
   clear hz
   have q3:v504=none:=e504.symm.trans q2
   subst q3
   simp_all
  | false =>
   obtain ⟨v508,e508⟩:∃v,(bdO v504)=v:=⟨_,rfl⟩
   obtain ⟨v509,e509⟩:∃v,(!v508)=v:=⟨_,rfl⟩
   cases h510:v509 with
   | true =>
    exfalso
    clear hz
    have q3:v504=none:=e504.symm.trans q2
    subst q3
    have q4:true=v508:=e508
    simp_all
   | false =>
    obtain ⟨v511,e511⟩:∃v,((leftN v504:Int))=v:=⟨_,rfl⟩
    obtain ⟨v512,e512⟩:∃v,((v511 != (0:Int)))=v:=⟨_,rfl⟩
    cases h513:v512 with
    | true =>
     exfalso
     clear hz
     have q3:v504=none:=e504.symm.trans q2
     subst q3
     have q4:true=v508:=e508
     have q5:(0:Int)=v511:=e511
     simp_all
    | false =>
     obtain ⟨v514,e514⟩:∃v,(IntKind.i64.wrap (k+(1:Int)))=v:=⟨_,rfl⟩
     refine .inr ⟨⟨v514,v504⟩,⟨v501,v503,v504,v506,v508,v509,v511,v512,v514,e501,e503,e504,e506,e508,e509,e511,e512,e514,h502,s505,h507,h510,h513,rfl,rfl,trivial⟩,?_,?_⟩
     all_goals (have d1:=of_decide_eq_true (e501.trans h502);have x4:v514=((n+1:Nat):Int):=(by rw [← e514,hk,wri (by omega)];omega))
     ·show (6 - v514).toNat<(6 - k).toNat
      omega
     ·exact ⟨n+1,x4,by omega,by rw [← e504];exact q2⟩
 | false =>
  refine .inl (⟨v501,e501,h502,trivial⟩)
theorem zrN {w0:World} (s:(List UInt8)) (c:Int) (hM:∀W,Below w0.heap.size w0 W→MaxT W) (hTS:∀W,Below w0.heap.size w0 W→PowT w0.heap.size W∧SynT w0.heap.size W) (v1:Int) (v2:Int) (n3:Nat) (v5:(List UInt8)) (v7:St) (v8:Bool) (v10:Int) (v11:Int) (v12:Bool) (v14:Int) (v15:Int) (v16:(List UInt8)) (v17:St) (v19:Bool) (v20:Bool) (v22:Int) (v23:Int) (v24:Int) (v25:Bool) (v27:Int) (v28:Bool) (n30:Nat) (v32:(List UInt8)) (v34:Bool) (e1:(((s:List UInt8).length:Int))=v1) (e2:((if (200:Int)<v1 then (200:Int) else v1))=v2) (e5:((s:List UInt8).take n3)=v5) (e7:(some v5)=v7) (e8:(bdO v7)=v8) (e10:((leftN v7:Int))=v10) (e11:(((v5:List UInt8).length:Int))=v11) (e12:((v10 != v11))=v12) (e14:(IntKind.i64.wrap c)=v14) (e15:((v14:Int).tmod (6:Int))=v15) (e16:(agS v15 v7)=v16) (e17:(callS v15 v7)=v17) (e19:(bdO v17)=v19) (e20:(!v19)=v20) (e22:(((v5:List UInt8).length:Int))=v22) (e23:((leftN v17:Int))=v23) (e24:(IntKind.i64.wrap (v22 - v23))=v24) (e25:(decide (v24 ≥ (0:Int)))=v25) (e27:(((v5:List UInt8).length:Int))=v27) (e28:(decide (v24≤v27))=v28) (e32:((v5:List UInt8).take n30)=v32) (e34:(((v32:List UInt8) == v16))=v34) (s4:v2=(n3:Int)) (s6:n3≤(s:List UInt8).length) (h9:v8=false) (h13:v12=false) (s18:leftN v7≤1000000) (h21:v20=true) (h26:v25=true) (h29:v28=true) (s31:v24=(n30:Int)) (s33:n30≤(v5:List UInt8).length):Fun (KN w0) Tryz.prog 6 [.o (.c (pS s)),.o (.c (pV (.int .u8 c)))] (.o (.c (pB v34))):=
 zi (zl (F:=FL [pS s,pV (.int .u8 c),pI v1,pI v2,pS v5,pS (lfO v7),pB (bdO v7),pB v8,pI v10,pI v11,pB v12,pI v14,pI v15,pS v16,pS (lfO v17),pB (bdO v17),pB v19,pB v20,pI v22,pI v23,pI v24,pB v25,pI v27,pB v28,pS v32,pB v34] []) (C:=[(1000001,.call ⟨9,[],[],.o (.c (.k (.bool true))),[]⟩),
  (1000005,.op (.len [9] 3) [LF (.h 0)] [] (LF (.h 2))),
  (1000006,.op (.min [3,3] 3) [LF (.h 2),LF (.k (.int .i64 200))] [] (LF (.h 3))),
  (1000007,.op (.sc 9 false true false) [LF (.h 0),LF (.h 3)] [] (LF (.h 4))),
  (1000010,.neu 18 [.o (.c (.h 4))] 62 [.h 5,.h 6]),
  (1000013,.bin .eql 45 (LF (.p 10 0)) (LF (.k (.pointer none))) (LF (.k (.bool false)))),
  (1000016,.call ⟨23,[.o (.c (.p 10 0))],[.bx 10 62 [.h 5,.h 6]],.o (.c (.h 7)),[.bx 10 62 [.h 5,.h 6]]⟩),
  (10007,.fb 7 false),
  (1000020,.call ⟨21,[.o (.c (.p 10 0))],[.bx 10 62 [.h 5,.h 6]],.o (.c (.h 8)),[.bx 10 62 [.h 5,.h 6]]⟩),
  (1000022,.op (.len [9] 3) [LF (.h 4)] [] (LF (.h 9))),
  (1000023,.bin .neq 3 (LF (.h 8)) (LF (.h 9)) (LF (.h 10))),
  (10010,.fb 10 false),
  (1000027,.op (.cv 5 3) [LF (.h 1)] [] (LF (.h 11))),
  (1000028,.bin .rem 3 (LF (.h 11)) (LF (.k (.int .i64 6))) (LF (.h 12))),
  (1000029,.call ⟨26,[.o (.c (.p 10 0)),.o (.c (.h 12))],[.bx 10 62 [.h 5,.h 6]],.o (.c (.h 13)),[.bx 10 62 [.h 14,.h 15]]⟩),
  (1000032,.call ⟨23,[.o (.c (.p 10 0))],[.bx 10 62 [.h 14,.h 15]],.o (.c (.h 16)),[.bx 10 62 [.h 14,.h 15]]⟩),
  (1000033,.un .not (LF (.h 16)) (LF (.h 17))),
  (10017,.fb 17 true),
  (1000035,.op (.len [9] 3) [LF (.h 4)] [] (LF (.h 18))),
  (1000037,.call ⟨21,[.o (.c (.p 10 0))],[.bx 10 62 [.h 14,.h 15]],.o (.c (.h 19)),[.bx 10 62 [.h 14,.h 15]]⟩),
  (1000038,.bin .sub 3 (LF (.h 18)) (LF (.h 19)) (LF (.h 20))),
  (1000043,.bin .geq 3 (LF (.h 20)) (LF (.k (.int .i64 0))) (LF (.h 21))),
  (10021,.fb 21 true),
  (1000048,.op (.len [9] 3) [LF (.h 4)] [] (LF (.h 22))),
  (1000049,.bin .leq 3 (LF (.h 20)) (LF (.h 22)) (LF (.h 23))),
  (10023,.fb 23 true),
  (1000054,.op (.sc 9 false true false) [LF (.h 4),LF (.h 20)] [] (LF (.h 24))),
  (1000056,.bin .eql 9 (LF (.h 24)) (LF (.h 13)) (LF (.h 25)))]) (k:=⟨6,[.o (.c (.h 0)),.o (.c (.h 1))],[],.o (.c (.h 25)),[]⟩) 0 (zf ⟨zb rfl,zb rfl,zb rfl,zb rfl,zb rfl,zb rfl,zb rfl,zb rfl,zb rfl,zb rfl,zb rfl,zb rfl,zb rfl,zb rfl,zb rfl,zb rfl,zb rfl,zb rfl,zb rfl,zb rfl,zb rfl,zb rfl,zb rfl,zb rfl,zb rfl,zb rfl,trivial⟩) ⟨ze (zma hM hTS) rfl rfl rfl rfl,
  e_op1 (za rfl) (za rfl) (fun W=>by rw [← e1];exact zhL (by kernel_rfl) W),
  e_op2 (za rfl) zd (za rfl) (fun W=>by rw [← e2];exact zmz W),
  e_op2 (za rfl) (za rfl) (za rfl) (fun W=>by rw [← e5];exact zoq (by kernel_rfl) s4 s6 W),
  zbk (zff v5 v7 e7) rfl rfl rfl rfl,
  zjh (by kernel_rfl),
  b_con (pan:=false) (w_bad v7 v8 e8) (by kernel_rfl) rfl rfl rfl rfl,
  e_fb (show pV (.bool v8)=_ by rw [h9]),
  b_con (pan:=false) (zcU v7 v10 e10) (by kernel_rfl) rfl rfl rfl rfl,
  e_op1 (za rfl) (za rfl) (fun W=>by rw [← e11];exact zhL (by kernel_rfl) W),
  e_bin (za rfl) (za rfl) (za rfl) (r_cmp (congrArg some e12)),
  e_fb (show pV (.bool v12)=_ by rw [h13]),
  e_op1 (za rfl) (za rfl) (fun W=>by rw [← e14];exact r_cvi (by kernel_rfl) (by kernel_rfl) W),
  e_bin (za rfl) zd (za rfl) (r_ar ((zn2 (by decide)).trans (congrArg some e15))),
  b_con (pan:=false) (zuy hM hTS v15 v7 v16 v17 e16 e17 s18) (by kernel_rfl) rfl rfl rfl rfl,
  b_con (pan:=false) (w_bad v17 v19 e19) (by kernel_rfl) rfl rfl rfl rfl,
  e_un (za rfl) (za rfl) (fun W=>by rw [← e20];exact r_not W),
  e_fb (show pV (.bool v20)=_ by rw [h21]),
  e_op1 (za rfl) (za rfl) (fun W=>by rw [← e22];exact zhL (by kernel_rfl) W),
  b_con (pan:=false) (zcU v17 v23 e23) (by kernel_rfl) rfl rfl rfl rfl,
  e_bin (za rfl) (za rfl) (za rfl) (r_ar (congrArg some e24)),
  e_bin (za rfl) zd (za rfl) (r_cmp (congrArg some e25)),
  e_fb (show pV (.bool v25)=_ by rw [h26]),
  e_op1 (za rfl) (za rfl) (fun W=>by rw [← e27];exact zhL (by kernel_rfl) W),
  e_bin (za rfl) (za rfl) (za rfl) (r_cmp (congrArg some e28)),
  e_fb (show pV (.bool v28)=_ by rw [h29]),
  e_op2 (za rfl) (za rfl) (za rfl) (fun W=>by rw [← e32];exact zoq (by kernel_rfl) s31 s33 W),
  e_bin (za rfl) (za rfl) (za rfl) (fun W X Y=>by rw [← e34];exact r_seq W X Y),
  trivial⟩ mixed (by kernel_rfl)) rfl rfl rfl rfl
theorem zrO {w0:World} (s:(List UInt8)) (c:Int) (hM:∀W,Below w0.heap.size w0 W→MaxT W) (hTS:∀W,Below w0.heap.size w0 W→PowT w0.heap.size W∧SynT w0.heap.size W) (v1:Int) (v2:Int) (n3:Nat) (v5:(List UInt8)) (v7:St) (v8:Bool) (v10:Int) (v11:Int) (v12:Bool) (v14:Int) (v15:Int) (v16:(List UInt8)) (v17:St) (v19:Bool) (v20:Bool) (e1:(((s:List UInt8).length:Int))=v1) (e2:((if (200:Int)<v1 then (200:Int) else v1))=v2) (e5:((s:List UInt8).take n3)=v5) (e7:(some v5)=v7) (e8:(bdO v7)=v8) (e10:((leftN v7:Int))=v10) (e11:(((v5:List UInt8).length:Int))=v11) (e12:((v10 != v11))=v12) (e14:(IntKind.i64.wrap c)=v14) (e15:((v14:Int).tmod (6:Int))=v15) (e16:(agS v15 v7)=v16) (e17:(callS v15 v7)=v17) (e19:(bdO v17)=v19) (e20:(!v19)=v20) (s4:v2=(n3:Int)) (s6:n3≤(s:List UInt8).length) (h9:v8=false) (h13:v12=false) (s18:leftN v7≤1000000) (h21:v20=false) (L_wo_l:∀R:Frm,R.pm=⟨ntOf Tryz.prog 6,[],[]⟩→zg (KN w0) Tryz.prog (FL [pS s,pV (.int .u8 c),pI v1,pI v2,pS v5,pS (lfO v7),pB (bdO v7),pB v8,pI v10,pI v11,pB v12,pI v14,pI v15,pS v16,pS (lfO v17),pB (bdO v17),pB v19,pB v20] []) R zq4 (lp Tryz.prog 6 0)):Fun (KN w0) Tryz.prog 6 [.o (.c (pS s)),.o (.c (pV (.int .u8 c)))] (.o (.c (pV (.bool true)))):=
 zi (z8 (F:=FL [pS s,pV (.int .u8 c),pI v1,pI v2,pS v5,pS (lfO v7),pB (bdO v7),pB v8,pI v10,pI v11,pB v12,pI v14,pI v15,pS v16,pS (lfO v17),pB (bdO v17),pB v19,pB v20] []) (C:=[(1000001,.call ⟨9,[],[],.o (.c (.k (.bool true))),[]⟩),
  (1000005,.op (.len [9] 3) [LF (.h 0)] [] (LF (.h 2))),
  (1000006,.op (.min [3,3] 3) [LF (.h 2),LF (.k (.int .i64 200))] [] (LF (.h 3))),
  (1000007,.op (.sc 9 false true false) [LF (.h 0),LF (.h 3)] [] (LF (.h 4))),
  (1000010,.neu 18 [.o (.c (.h 4))] 62 [.h 5,.h 6]),
  (1000013,.bin .eql 45 (LF (.p 10 0)) (LF (.k (.pointer none))) (LF (.k (.bool false)))),
  (1000016,.call ⟨23,[.o (.c (.p 10 0))],[.bx 10 62 [.h 5,.h 6]],.o (.c (.h 7)),[.bx 10 62 [.h 5,.h 6]]⟩),
  (10007,.fb 7 false),
  (1000020,.call ⟨21,[.o (.c (.p 10 0))],[.bx 10 62 [.h 5,.h 6]],.o (.c (.h 8)),[.bx 10 62 [.h 5,.h 6]]⟩),
  (1000022,.op (.len [9] 3) [LF (.h 4)] [] (LF (.h 9))),
  (1000023,.bin .neq 3 (LF (.h 8)) (LF (.h 9)) (LF (.h 10))),
  (10010,.fb 10 false),
  (1000027,.op (.cv 5 3) [LF (.h 1)] [] (LF (.h 11))),
  (1000028,.bin .rem 3 (LF (.h 11)) (LF (.k (.int .i64 6))) (LF (.h 12))),
  (1000029,.call ⟨26,[.o (.c (.p 10 0)),.o (.c (.h 12))],[.bx 10 62 [.h 5,.h 6]],.o (.c (.h 13)),[.bx 10 62 [.h 14,.h 15]]⟩),
  (1000032,.call ⟨23,[.o (.c (.p 10 0))],[.bx 10 62 [.h 14,.h 15]],.o (.c (.h 16)),[.bx 10 62 [.h 14,.h 15]]⟩),
  (1000033,.un .not (LF (.h 16)) (LF (.h 17))),
  (10017,.fb 17 false)]) (k:=⟨6,[.o (.c (.h 0)),.o (.c (.h 1))],[],.o (.c (.k (.bool true))),[]⟩) ⟨[zq4],[],0⟩ [] 0 (zf ⟨zb rfl,zb rfl,zb rfl,zb rfl,zb rfl,zb rfl,zb rfl,zb rfl,zb rfl,zb rfl,zb rfl,zb rfl,zb rfl,zb rfl,zb rfl,zb rfl,zb rfl,zb rfl,trivial⟩) ⟨ze (zma hM hTS) rfl rfl rfl rfl,
  e_op1 (za rfl) (za rfl) (fun W=>by rw [← e1];exact zhL (by kernel_rfl) W),
  e_op2 (za rfl) zd (za rfl) (fun W=>by rw [← e2];exact zmz W),
  e_op2 (za rfl) (za rfl) (za rfl) (fun W=>by rw [← e5];exact zoq (by kernel_rfl) s4 s6 W),
  zbk (zff v5 v7 e7) rfl rfl rfl rfl,
  zjh (by kernel_rfl),
  b_con (pan:=false) (w_bad v7 v8 e8) (by kernel_rfl) rfl rfl rfl rfl,
  e_fb (show pV (.bool v8)=_ by rw [h9]),
  b_con (pan:=false) (zcU v7 v10 e10) (by kernel_rfl) rfl rfl rfl rfl,
  e_op1 (za rfl) (za rfl) (fun W=>by rw [← e11];exact zhL (by kernel_rfl) W),
  e_bin (za rfl) (za rfl) (za rfl) (r_cmp (congrArg some e12)),
  e_fb (show pV (.bool v12)=_ by rw [h13]),
  e_op1 (za rfl) (za rfl) (fun W=>by rw [← e14];exact r_cvi (by kernel_rfl) (by kernel_rfl) W),
  e_bin (za rfl) zd (za rfl) (r_ar ((zn2 (by decide)).trans (congrArg some e15))),
  b_con (pan:=false) (zuy hM hTS v15 v7 v16 v17 e16 e17 s18) (by kernel_rfl) rfl rfl rfl rfl,
  b_con (pan:=false) (w_bad v17 v19 e19) (by kernel_rfl) rfl rfl rfl rfl,
  e_un (za rfl) (za rfl) (fun W=>by rw [← e20];exact r_not W),
  e_fb (show pV (.bool v20)=_ by rw [h21]),
  trivial⟩ mixed trivial (fun R hR p hp s hs=>by
 have hl:zH (qg Tryz.prog 6)=[(11,lp Tryz.prog 6 0)]:=by kernel_rfl
 rw [hl] at hp
 simp only [List.mem_cons,List.not_mem_nil,or_false] at hp
 rcases hp with rfl
 ·have e:s=zq4:=(Option.some.inj hs).symm
  subst e;exact L_wo_l R hR) (by kernel_rfl)) rfl rfl rfl rfl
theorem zpV (s:(List UInt8)) (c:Int) (hc:0≤c∧c<256) :((if (200:Int)<(((s:List UInt8).length:Int)) then (200:Int) else (((s:List UInt8).length:Int))))=(((min s.length 200:Nat)):Int):=by split<;>omega
theorem zpW (s:(List UInt8)) (c:Int) (hc:0≤c∧c<256) :((min s.length 200:Nat))≤(s:List UInt8).length:=by omega
theorem zps (s:(List UInt8)) (c:Int) (hc:0≤c∧c<256) :((bdO (some ((s:List UInt8).take ((min s.length 200:Nat))))))=false:=by rfl
theorem zpt (s:(List UInt8)) (c:Int) (hc:0≤c∧c<256) :(((((leftN (some ((s:List UInt8).take ((min s.length 200:Nat)))):Int)) != (((((s:List UInt8).take ((min s.length 200:Nat))):List UInt8).length:Int)))))=false:=by simp [leftN]
theorem zpX (s:(List UInt8)) (c:Int) (hc:0≤c∧c<256) :leftN (some ((s:List UInt8).take ((min s.length 200:Nat))))≤1000000:=by exact Nat.le_trans (tk200 s) (by decide)
theorem zrI (s:(List UInt8)) (c:Int) (hc:0≤c∧c<256) (d1:((!(bdO (callS (((IntKind.i64.wrap c):Int).tmod (6:Int)) (some ((s:List UInt8).take ((min s.length 200:Nat))))))))=true):((decide ((IntKind.i64.wrap ((((((s:List UInt8).take ((min s.length 200:Nat))):List UInt8).length:Int)) - ((leftN (callS (((IntKind.i64.wrap c):Int).tmod (6:Int)) (some ((s:List UInt8).take ((min s.length 200:Nat))))):Int)))) ≥ (0:Int))))=true:=by exact decide_eq_true (zpf (tk200 s) d1).1
theorem zrJ (s:(List UInt8)) (c:Int) (hc:0≤c∧c<256) (d1:((!(bdO (callS (((IntKind.i64.wrap c):Int).tmod (6:Int)) (some ((s:List UInt8).take ((min s.length 200:Nat))))))))=true):((decide ((IntKind.i64.wrap ((((((s:List UInt8).take ((min s.length 200:Nat))):List UInt8).length:Int)) - ((leftN (callS (((IntKind.i64.wrap c):Int).tmod (6:Int)) (some ((s:List UInt8).take ((min s.length 200:Nat))))):Int))))≤(((((s:List UInt8).take ((min s.length 200:Nat))):List UInt8).length:Int)))))=true:=by exact decide_eq_true (zpf (tk200 s) d1).2.1
theorem zrK (s:(List UInt8)) (c:Int) (hc:0≤c∧c<256) (d1:((!(bdO (callS (((IntKind.i64.wrap c):Int).tmod (6:Int)) (some ((s:List UInt8).take ((min s.length 200:Nat))))))))=true):(IntKind.i64.wrap ((((((s:List UInt8).take ((min s.length 200:Nat))):List UInt8).length:Int)) - ((leftN (callS (((IntKind.i64.wrap c):Int).tmod (6:Int)) (some ((s:List UInt8).take ((min s.length 200:Nat))))):Int))))=(((IntKind.i64.wrap ((((((s:List UInt8).take ((min s.length 200:Nat))):List UInt8).length:Int)) - ((leftN (callS (((IntKind.i64.wrap c):Int).tmod (6:Int)) (some ((s:List UInt8).take ((min s.length 200:Nat))))):Int))):Int).toNat):Int):=by exact (Int.toNat_of_nonneg (zpf (tk200 s) d1).1).symm
theorem zrL (s:(List UInt8)) (c:Int) (hc:0≤c∧c<256) (d1:((!(bdO (callS (((IntKind.i64.wrap c):Int).tmod (6:Int)) (some ((s:List UInt8).take ((min s.length 200:Nat))))))))=true):((IntKind.i64.wrap ((((((s:List UInt8).take ((min s.length 200:Nat))):List UInt8).length:Int)) - ((leftN (callS (((IntKind.i64.wrap c):Int).tmod (6:Int)) (some ((s:List UInt8).take ((min s.length 200:Nat))))):Int))):Int).toNat)≤(((s:List UInt8).take ((min s.length 200:Nat))):List UInt8).length:=by exact (by have q:=(zpf (tk200 s) d1).2.1;have q0:=(zpf (tk200 s) d1).1;omega)
theorem zrM (s:(List UInt8)) (c:Int) (hc:0≤c∧c<256) (d1:((!(bdO (callS (((IntKind.i64.wrap c):Int).tmod (6:Int)) (some ((s:List UInt8).take ((min s.length 200:Nat))))))))=true):((((((s:List UInt8).take ((min s.length 200:Nat))):List UInt8).take ((IntKind.i64.wrap ((((((s:List UInt8).take ((min s.length 200:Nat))):List UInt8).length:Int)) - ((leftN (callS (((IntKind.i64.wrap c):Int).tmod (6:Int)) (some ((s:List UInt8).take ((min s.length 200:Nat))))):Int))):Int).toNat)):List UInt8) == (agS (((IntKind.i64.wrap c):Int).tmod (6:Int)) (some ((s:List UInt8).take ((min s.length 200:Nat))))))=true:=by rw [beq_iff_eq];exact (zpf (tk200 s) d1).2.2
theorem ztH {w0:World} (hM:∀W,Below w0.heap.size w0 W→MaxT W) (hTS:∀W,Below w0.heap.size w0 W→PowT w0.heap.size W∧SynT w0.heap.size W) (s:(List UInt8)) (c:Int) (hc:0≤c∧c<256):Fun (KN w0) Tryz.prog 6 [.o (.c (pS s)),.o (.c (pV (.int .u8 c)))] (.o (.c (pV (.bool true)))):=by
 rcases Bool.eq_false_or_eq_true ((!(bdO (callS (((IntKind.i64.wrap c):Int).tmod (6:Int)) (some ((s:List UInt8).take ((min s.length 200:Nat)))))))) with d1 | d1
 ·
  exact zrN s c hM hTS _ _ ((min s.length 200:Nat)) _ _ _ _ _ _ _ _ _ _ _ _ _ _ _ _ _ _ ((IntKind.i64.wrap ((((((s:List UInt8).take ((min s.length 200:Nat))):List UInt8).length:Int)) - ((leftN (callS (((IntKind.i64.wrap c):Int).tmod (6:Int)) (some ((s:List UInt8).take ((min s.length 200:Nat))))):Int))):Int).toNat) _ _ rfl rfl rfl rfl rfl rfl rfl rfl rfl rfl rfl rfl rfl rfl rfl rfl rfl rfl rfl rfl rfl (zrM s c hc d1) (zpV s c hc ) (zpW s c hc ) (zps s c hc ) (zpt s c hc ) (zpX s c hc ) d1 (zrI s c hc d1) (zrJ s c hc d1) (zrK s c hc d1) (zrL s c hc d1)
 ·
  exact zrO s c hM hTS _ _ ((min s.length 200:Nat)) _ _ _ _ _ _ _ _ _ _ _ _ rfl rfl rfl rfl rfl rfl rfl rfl rfl rfl rfl rfl rfl rfl (zpV s c hc ) (zpW s c hc ) (zps s c hc ) (zpt s c hc ) (zpX s c hc ) d1 (fun R hR=>zwa hM hTS s c (((s:List UInt8).length:Int)) ((if (200:Int)<(((s:List UInt8).length:Int)) then (200:Int) else (((s:List UInt8).length:Int)))) ((min s.length 200:Nat)) ((s:List UInt8).take ((min s.length 200:Nat))) (some ((s:List UInt8).take ((min s.length 200:Nat)))) (bdO (some ((s:List UInt8).take ((min s.length 200:Nat))))) ((leftN (some ((s:List UInt8).take ((min s.length 200:Nat)))):Int)) (((((s:List UInt8).take ((min s.length 200:Nat))):List UInt8).length:Int)) ((((leftN (some ((s:List UInt8).take ((min s.length 200:Nat)))):Int)) != (((((s:List UInt8).take ((min s.length 200:Nat))):List UInt8).length:Int)))) (IntKind.i64.wrap c) (((IntKind.i64.wrap c):Int).tmod (6:Int)) (agS (((IntKind.i64.wrap c):Int).tmod (6:Int)) (some ((s:List UInt8).take ((min s.length 200:Nat))))) (callS (((IntKind.i64.wrap c):Int).tmod (6:Int)) (some ((s:List UInt8).take ((min s.length 200:Nat))))) (bdO (callS (((IntKind.i64.wrap c):Int).tmod (6:Int)) (some ((s:List UInt8).take ((min s.length 200:Nat)))))) (!(bdO (callS (((IntKind.i64.wrap c):Int).tmod (6:Int)) (some ((s:List UInt8).take ((min s.length 200:Nat))))))) (zps s c hc ) (zpt s c hc ) d1  rfl rfl rfl rfl rfl rfl rfl rfl rfl rfl rfl rfl rfl rfl rfl rfl R hR (zuK d1))
end Go.Proofs.YtjcegdldgjphiaaGreatDoor
namespace Go.Proofs.YtjcegdldgjphiaaGreatDoor
open Go.ChangeShapes Go.WideShapes Go.ChangeAt Go.RowKit Go.Joins Go.Deep
theorem zqJ (os:Os) (started:os.Started) (H:Type) (enc:TypeId×Value→H) :
  ReturnsInHanded {} Tryz.checked os 6 .any (fun w args=>(Rows.wireOnceSpec.pre enc Tryz.prog Tryz.f6 [] false w args∧laidMetH Tryz.prog laidL w)∧sizedMet enc Tryz.prog Tryz.f6 (OpenSpec.ofChange Rows.wireOnceSpec) false w args)
   (Rows.wireOnceSpec.post enc Tryz.prog Tryz.f6 false true false false):=by
 refine zhf (C:=Tryz.checked) (X:=fun w _=>laidMetH Tryz.prog laidL w) (fun _ _ _ hh h=>h.of_heap hh) Tryz.own started (by kernel_rfl) Tryz.func6
  (ChangeSpec.witness_shaped (enc:=enc) (C:=Tryz.checked) (os:=os) (X:=fun w _=>laidMetH Tryz.prog laidL w) false (World.doorLaid Tryz.prog 400 os) #[.string ⟨#[]⟩,.int .u8 0] 8 rfl (World.shaped_of_RefB (by kernel_rfl) (by kernel_rfl)) (by kernel_rfl) (by kernel_rfl) (by kernel_rfl) (zk1 os _)) ?_
 intro W base args ds gs before hval0 hW hL hsh
 have hval:∀(j:Nat) t v,Tryz.f6.params[j]?=some t→args[j]?=some v→Value.okWide Tryz.prog W .any base t v:=hval0
 have hW':=hW
 obtain ⟨p,q,hA0,hV,rfl,hfz,hnd⟩:=hW
 have hA:DataW.TrodAll enc Tryz.prog W 0 (fun _=>true) true Tryz.f6.params.toList args.toList ds p:=hA0
 rw [Tryz.params6] at hA hval
 obtain ⟨v0,v1,d0,d1,p0,p1,rfl,rfl,rfl,h0,h1⟩:=trodAll_two hA
 obtain ⟨y0,rfl,rfl,rfl,w0⟩:=Go.ChangeMaps.open_string Tryz.underlying9 (hval 0 9 v0 rfl rfl) h0
 obtain ⟨x0,rfl⟩:∃t:List UInt8,y0=⟨t.toArray⟩:=⟨y0.data.toList,rfl⟩
 have s0:x0.length≤9223372036854775807:=w0
 obtain ⟨x1,rfl,rfl,rfl,w1⟩:=open_int Tryz.underlying5 (hval 1 5 v1 rfl rfl) h1
 have s1:=bounds_u8 w1
 refine (zm8 (args:=#[.string ⟨x0.toArray⟩,.int .u8 x1]) (ztH (zld hsh) (zlb hL) x0 x1 ⟨s1.1,by omega⟩) ⟨rfl,rfl,trivial⟩).mono fun e W' ⟨he,hb⟩=>?_
 subst he
 exact ⟨_,rfl,zgM rfl Tryz.laidOut (by decide +kernel) 4 (by kernel_rfl) Tryz.underlying4 (fun d hd=>by match d,hd with | [_,_],_=>rfl) hW' hb⟩
theorem zqS:Rows.WireOnceSaid:=
 OpenClaim.holds_of_wide 6 Tryz.f6 rfl rfl rfl rfl rfl rfl rfl ⟨rfl,rfl,rfl,rfl,rfl⟩ rfl rfl rfl rfl rfl (by kernel_rfl) Tryz.func6 (by kernel_rfl)
  (of_decide_eq_true (by kernel_rfl)) (by unfold Func.isWrapper;rw [if_neg (of_decide_eq_false (by kernel_rfl))];exact ⟨rfl,rfl⟩)
  (fun os started H enc _=>zqJ os started H enc)
theorem wireOnce_card:Rows.WireOnceCardSaid:=
 Claim7.holds_tied_plain_at .later [] [.data, .data, .data, .sentinel, .sentinel] true (true, "f6d13d20111d2d1024e69384a6477e3c0998475b261181dffc81234b037bb8e9") true
  zqS (fun _ h=>by cases h) (by kernel_rfl) (fun _ h=>by cases h) wireOnce_row_tie rfl ⟨rfl,rfl⟩ (by kernel_rfl) rfl
  (fun f fn hf hfn=>by
   obtain rfl : f = 6 := Option.some.inj ((show Tryz.prog.funcNamed "collet/colletlaw04.WireOnce" = some 6 by kernel_rfl).symm.trans hf) |>.symm
   obtain rfl:fn=Tryz.f6:=(Option.some.inj (Tryz.func6.symm.trans hfn)).symm
   exact ⟨by kernel_rfl,fun j t ht=>by
    rw [Tryz.params6] at ht
    have hm:t∈[9,5]:=by simpa using Array.mem_of_getElem? ht
    have hall:([9,5].all fun u=>!Tryz.prog.wantsStandIn u)=true:=by kernel_rfl
    exact (show Tryz.prog.wantsStandIn t=false by simpa using List.all_eq_true.1 hall t hm)⟩)
  (by kernel_rfl)
end Go.Proofs.YtjcegdldgjphiaaGreatDoor
