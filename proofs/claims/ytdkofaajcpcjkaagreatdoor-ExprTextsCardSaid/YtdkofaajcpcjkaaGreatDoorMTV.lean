/-
  Merged: ExRe, ExRp, ExTx.
-/
import Derived.Test.YtdkofaajcpcjkaaGreatDoorMTU
import Derived.Test.YtdkofaajcpcjkaaGreatDoorMTS
import Derived.Test.YtdkofaajcpcjkaaGreatDoorMTO
import Derived.Test.YtdkofaajcpcjkaaGreatDoorMTQ
set_option linter.unusedSimpArgs false
set_option linter.unusedVariables false
set_option maxRecDepth 100000
namespace Go.Proofs.YtdkofaajcpcjkaaGreatDoor
open Go.RowKit
def qa (w0:World) (N:Nat):Prop:=∀(s:List UInt8) (a d:Int) (e:Xp) (r:Int),(readR d.toNat (s.drop a.toNat)).1=e→(s.length:Int) - ((readR d.toNat (s.drop a.toNat)).2.length:Int)=r→(0≤a∧a≤(s.length:Int)∧s.length≤1000000)→(0≤d∧d<N)→Fun (KN w0) Tryz.prog 33 [.o (.c (pS s)),.o (.c (pI a)),.o (.c (pI d))] (.t [.g [pI e.op,pI e.n,pLs cE e.l],.c (pI r)])
structure rr_A_T where
 k:Int
 g:Int
def qN:List Atom:=(.sl 0 (yh 0)::.sl 1 (yh 1)::.sl 2 (yh 2)::.sl 6 (.o (.c (.p 0 0)))::.sl 7 (.o (.c (.k (.int .i64 0))))::.sl 9 (yh 9)::.sl 10 (.o (.c (.p 22 0)))::.sl 11 (yh 10)::.sl 16 (yh 1)::.sl 17 (yh 0)::.sl 18 (yh 3)::.sl 19 (yh 4)::.sl 20 (yh 4)::.sl 21 (yh 0)::.sl 22 (yh 1)::.sl 23 (yh 5)::.sl 24 (yh 6)::.sl 25 (yh 6)::.sl 26 (yh 6)::.sl 27 (yh 2)::.sl 28 (yh 7)::.sl 29 (yh 7)::.sl 59 (yh 0)::.sl 60 (yh 1)::.sl 61 (yh 8)::.sl 62 (yh 9)::.sl 63 (.o (.g [.k (.int .i64 3),.k (.int .i64 0),.k (.slice none 0 0)]))::.bx 0 32 [.k (.int .i64 0),.k (.int .i64 0),.k (.slice none 0 0)]::.bx 22 32 [.h 11,.k (.int .i64 0),.k (.slice none 0 0)]::[]:List Atom)
def zec:LoopS:=⟨9,(.sl 0 (yh 0)::.sl 1 (yh 1)::.sl 2 (yh 2)::.sl 6 (.o (.c (.p 0 0)))::.sl 7 (.o (.c (.k (.int .i64 0))))::.sl 9 (yh 9)::.sl 10 (.o (.c (.p 22 0)))::.sl 11 (.o (.c (.k (.int .i64 0))))::.sl 16 (yh 1)::.sl 17 (yh 0)::.sl 18 (yh 3)::.sl 19 (yh 4)::.sl 20 (yh 4)::.sl 21 (yh 0)::.sl 22 (yh 1)::.sl 23 (yh 5)::.sl 24 (yh 6)::.sl 25 (yh 6)::.sl 26 (yh 6)::.sl 27 (yh 2)::.sl 28 (yh 7)::.sl 29 (yh 7)::.sl 59 (yh 0)::.sl 60 (yh 1)::.sl 61 (yh 8)::.sl 62 (yh 9)::.sl 63 (.o (.g [.k (.int .i64 3),.k (.int .i64 0),.k (.slice none 0 0)]))::.bx 0 32 [.k (.int .i64 0),.k (.int .i64 0),.k (.slice none 0 0)]::.bx 22 32 [.k (.int .i64 3),.k (.int .i64 0),.k (.slice none 0 0)]::[]:List Atom),(.x 0),(.sl 0 (yh 0)::.sl 1 (yh 1)::.sl 2 (yh 2)::.sl 6 (.o (.c (.p 0 0)))::.sl 7 (.o (.c (.k (.int .i64 0))))::.sl 9 (yh 9)::.sl 10 (.o (.c (.p 22 0)))::.sl 16 (yh 1)::.sl 17 (yh 0)::.sl 18 (yh 3)::.sl 19 (yh 4)::.sl 20 (yh 4)::.sl 21 (yh 0)::.sl 22 (yh 1)::.sl 23 (yh 5)::.sl 24 (yh 6)::.sl 25 (yh 6)::.sl 26 (yh 6)::.sl 27 (yh 2)::.sl 28 (yh 7)::.sl 29 (yh 7)::.sl 59 (yh 0)::.sl 60 (yh 1)::.sl 61 (yh 8)::.sl 62 (yh 9)::.sl 63 (.o (.g [.k (.int .i64 3),.k (.int .i64 0),.k (.slice none 0 0)]))::.bx 0 32 [.k (.int .i64 0),.k (.int .i64 0),.k (.slice none 0 0)]::.bx 22 32 [.h 10,.k (.int .i64 0),.k (.slice none 0 0)]::[]:List Atom)⟩
theorem zn7 {w0:World} (s:(List UInt8)) (a:Int) (d:Int) (N:Nat) (v1:Int) (v2:Bool) (n4:Nat) (b5:UInt8) (v8:Bool) (v10:Bool) (v12:Int) (v13:Int) (IH:qa w0 N) (h3:v2=false) (h9:v8=false) (h11:v10=false) (k:Int) (g:Int) (v501:(List (List UInt8))) (v502:Int) (v503:Bool) (v505:(List (List UInt8))) (n506:Nat) (x507:(List UInt8)) (v510:Int) (n511:Nat) (n513:Nat) (v515:(List UInt8)) (v518:Bool) (v520:Int) (v521:Int) (e501:(qA)=v501) (e502:((v501.length:Int))=v502) (e503:(decide (k<v502))=v503) (e505:(qA)=v505) (e510:(IntKind.i64.wrap (a+(1:Int)))=v510) (e515:(((s:List UInt8).drop n511).take (n513 - n511))=v515) (e518:(((x507:List UInt8) == v515))=v518) (e520:(IntKind.i64.wrap ((3:Int)+k))=v520) (e521:(IntKind.i64.wrap (k+(1:Int)))=v521) (h504:v503=true) (s508:k=(n506:Int)) (s509:v505[n506]?=some x507) (s512:v510=(n511:Int)) (s514:v13=(n513:Int)) (s516:n511≤n513) (s517:n513≤(s:List UInt8).length) (h519:v518=true) (k':Int) (g':Int) (q0:(v521)=k') (q1:(v520)=g') (R:Frm) (hR:R.pm=⟨ntOf Tryz.prog 33,[],[]⟩):Goes (KN w0) Tryz.prog R (lp Tryz.prog 33 0) (FL [pS s,pI a,pI d,pI v1,pB v2,pV (.int .u8 (b5.toNat:Int)),pB v8,pB v10,pI v12,pI v13,pI k,pI g] []) qN .n (FL [pS s,pI a,pI d,pI v1,pB v2,pV (.int .u8 (b5.toNat:Int)),pB v8,pB v10,pI v12,pI v13,pI k',pI g'] []) qN:=
 goes (x:=.n) (y:=.n) (Fb:=FL [pS s,pI a,pI d,pI v1,pB v2,pV (.int .u8 (b5.toNat:Int)),pB v8,pB v10,pI v12,pI v13,pI k,pI g,pLs cS v501,pI v502,pB v503,pLs cS v505,pP (cS x507),pS x507,pI v510,pS v515,pB v518,pI v520,pI v521] []) (stb:=qN) (tl:=(.sl 0 (yh 0)::.sl 1 (yh 1)::.sl 2 (yh 2)::.sl 6 (.o (.c (.p 0 0)))::.sl 7 (.o (.c (.k (.int .i64 0))))::.sl 9 (yh 9)::.sl 10 (.o (.c (.p 22 0)))::.sl 11 (yh 22)::.sl 16 (yh 1)::.sl 17 (yh 0)::.sl 18 (yh 3)::.sl 19 (yh 4)::.sl 20 (yh 4)::.sl 21 (yh 0)::.sl 22 (yh 1)::.sl 23 (yh 5)::.sl 24 (yh 6)::.sl 25 (yh 6)::.sl 26 (yh 6)::.sl 27 (yh 2)::.sl 28 (yh 7)::.sl 29 (yh 7)::.sl 59 (yh 0)::.sl 60 (yh 1)::.sl 61 (yh 8)::.sl 62 (yh 9)::.sl 63 (.o (.g [.k (.int .i64 3),.k (.int .i64 0),.k (.slice none 0 0)]))::.bx 0 32 [.k (.int .i64 0),.k (.int .i64 0),.k (.slice none 0 0)]::.bx 22 32 [.h 21,.k (.int .i64 0),.k (.slice none 0 0)]::[]:List Atom)) (C:=((10004,.fb 4 false) ::
  (10006,.fb 6 false) ::
  (10007,.fb 7 false) ::
  (1005001,.call ⟨47,[],[],yh 12,[]⟩) ::
  (1005002,.op (.len [28] 3) [yh 12] [] (yh 13)) ::
  (1005003,.bin .lss 3 (yh 10) (yh 13) (yh 14)) ::
  (10014,.fb 14 true) ::
  (1005004,.call ⟨47,[],[],yh 15,[]⟩) ::
  (1005006,.op (.ia 28) [yh 15,yh 10] [] (yh 16)) ::
  (1005007,.op (.ld 9) [yh 16] [] (yh 17)) ::
  (1005010,.bin .add 3 (yh 1) (LF (.k (.int .i64 1))) (yh 18)) ::
  (1005012,.op (.sc 9 true true false) [yh 0,yh 18,yh 9] [] (yh 19)) ::
  (1005013,.bin .eql 9 (yh 17) (yh 19) (yh 20)) ::
  (10020,.fb 20 true) ::
  (1005015,.bin .add 3 (LF (.k (.int .i64 3))) (yh 10) (yh 21)) ::
  (1005019,.bin .add 3 (yh 10) (LF (.k (.int .i64 1))) (yh 22)) ::
  []:List (Nat×Ent))) (H:=.no) 5000 (zipA.imp ⟨z_c yy,z_c yy,z_c yy,z_c yy,z_c yy,z_c yy,z_c yy,z_c yy,z_c yy,z_c yy,z_c yy,z_c yy,z_c yy,z_c yy,z_c yy,z_c yy,z_c yy,z_c yy,z_c yy,z_c yy,z_c yy,z_c yy,z_c yy,z_c yy,z_c yy,z_c yy,z_g ⟨yy,yy,yy,trivial⟩,z_b ⟨yy,yy,yy,trivial⟩,z_b ⟨yy,yy,yy,trivial⟩,trivial⟩) (zg ⟨za,za,za,za,za,za,za,za,za,za,za,za,(ze zN),za,za,(ze zN),(zl (zN _)),za,za,za,za,za,za,trivial⟩) ⟨e_fbv h3,
  e_fbv h9,
  e_fbv h11,
  zh (zcE  v501 e501),
  zF (E:=9) (by kernel_rfl) (zc rfl) (zb (by rw [← e502];rfl)),
  e_bin (zb rfl) (zb rfl) (zb rfl) (r_cmp (congrArg some e503)),
  e_fbv h504,
  zh (zcE  v505 e505),
  e_iaL (E:=9) (z:=1) (fun _=>rfl) (by kernel_rfl) (by kernel_rfl) (zc rfl) (zb rfl) s508 s509 (zc rfl),
  e_ldP (by kernel_rfl) (zc rfl) (zc rfl),
  e_bin (zb rfl) zd (zb rfl) (r_ar (congrArg some e510)),
  e_op3 (zb rfl) (zb rfl) (zb rfl) (zb rfl) (fun W=>by rw [← e515];exact r_sl (by kernel_rfl) s512 s514 s516 s517 W),
  e_bin (zb rfl) (zb rfl) (zb rfl) (fun W X Y=>by rw [← e518];exact r_seq W X Y),
  e_fbv h519,
  e_bin zd (zb rfl) (zb rfl) (r_ar (congrArg some e520)),
  e_bin (zb rfl) zd (zb rfl) (r_ar (congrArg some e521)),
  trivial⟩ mixed hR trivial (fun _ _ _ hs=>by cases hs) (by kernel_rfl:zA (KN w0) Tryz.prog _ .no ⟨ntOf Tryz.prog 33,[],[]⟩ (lp Tryz.prog 33 0) 5000 qN .n (.sl 0 (yh 0)::.sl 1 (yh 1)::.sl 2 (yh 2)::.sl 6 (.o (.c (.p 0 0)))::.sl 7 (.o (.c (.k (.int .i64 0))))::.sl 9 (yh 9)::.sl 10 (.o (.c (.p 22 0)))::.sl 11 (yh 22)::.sl 16 (yh 1)::.sl 17 (yh 0)::.sl 18 (yh 3)::.sl 19 (yh 4)::.sl 20 (yh 4)::.sl 21 (yh 0)::.sl 22 (yh 1)::.sl 23 (yh 5)::.sl 24 (yh 6)::.sl 25 (yh 6)::.sl 26 (yh 6)::.sl 27 (yh 2)::.sl 28 (yh 7)::.sl 29 (yh 7)::.sl 59 (yh 0)::.sl 60 (yh 1)::.sl 61 (yh 8)::.sl 62 (yh 9)::.sl 63 (.o (.g [.k (.int .i64 3),.k (.int .i64 0),.k (.slice none 0 0)]))::.bx 0 32 [.k (.int .i64 0),.k (.int .i64 0),.k (.slice none 0 0)]::.bx 22 32 [.h 21,.k (.int .i64 0),.k (.slice none 0 0)]::[]:List Atom)=true) rfl (zipA.imp ⟨z_c yy,z_c yy,z_c yy,z_c yy,z_c yy,z_c yy,z_c yy,z_c (fun β v W h=>(zc rfl β v W).2 (by rw [← q0];exact h)),z_c yy,z_c yy,z_c yy,z_c yy,z_c yy,z_c yy,z_c yy,z_c yy,z_c yy,z_c yy,z_c yy,z_c yy,z_c yy,z_c yy,z_c yy,z_c yy,z_c yy,z_c yy,z_g ⟨yy,yy,yy,trivial⟩,z_b ⟨yy,yy,yy,trivial⟩,z_b ⟨fun β v W h=>(zc rfl β v W).2 (by rw [← q1];exact h),yy,yy,trivial⟩,trivial⟩)
theorem zn8 {w0:World} (s:(List UInt8)) (a:Int) (d:Int) (N:Nat) (v1:Int) (v2:Bool) (n4:Nat) (b5:UInt8) (v8:Bool) (v10:Bool) (v12:Int) (v13:Int) (IH:qa w0 N) (h3:v2=false) (h9:v8=false) (h11:v10=false) (k:Int) (g:Int) (v501:(List (List UInt8))) (v502:Int) (v503:Bool) (v505:(List (List UInt8))) (n506:Nat) (x507:(List UInt8)) (v510:Int) (n511:Nat) (n513:Nat) (v515:(List UInt8)) (v518:Bool) (v520:Int) (e501:(qA)=v501) (e502:((v501.length:Int))=v502) (e503:(decide (k<v502))=v503) (e505:(qA)=v505) (e510:(IntKind.i64.wrap (a+(1:Int)))=v510) (e515:(((s:List UInt8).drop n511).take (n513 - n511))=v515) (e518:(((x507:List UInt8) == v515))=v518) (e520:(IntKind.i64.wrap (k+(1:Int)))=v520) (h504:v503=true) (s508:k=(n506:Int)) (s509:v505[n506]?=some x507) (s512:v510=(n511:Int)) (s514:v13=(n513:Int)) (s516:n511≤n513) (s517:n513≤(s:List UInt8).length) (h519:v518=false) (k':Int) (g':Int) (q0:(v520)=k') (q1:(g)=g') (R:Frm) (hR:R.pm=⟨ntOf Tryz.prog 33,[],[]⟩):Goes (KN w0) Tryz.prog R (lp Tryz.prog 33 0) (FL [pS s,pI a,pI d,pI v1,pB v2,pV (.int .u8 (b5.toNat:Int)),pB v8,pB v10,pI v12,pI v13,pI k,pI g] []) qN .n (FL [pS s,pI a,pI d,pI v1,pB v2,pV (.int .u8 (b5.toNat:Int)),pB v8,pB v10,pI v12,pI v13,pI k',pI g'] []) qN:=
 goes (x:=.n) (y:=.n) (Fb:=FL [pS s,pI a,pI d,pI v1,pB v2,pV (.int .u8 (b5.toNat:Int)),pB v8,pB v10,pI v12,pI v13,pI k,pI g,pLs cS v501,pI v502,pB v503,pLs cS v505,pP (cS x507),pS x507,pI v510,pS v515,pB v518,pI v520] []) (stb:=qN) (tl:=(.sl 0 (yh 0)::.sl 1 (yh 1)::.sl 2 (yh 2)::.sl 6 (.o (.c (.p 0 0)))::.sl 7 (.o (.c (.k (.int .i64 0))))::.sl 9 (yh 9)::.sl 10 (.o (.c (.p 22 0)))::.sl 11 (yh 21)::.sl 16 (yh 1)::.sl 17 (yh 0)::.sl 18 (yh 3)::.sl 19 (yh 4)::.sl 20 (yh 4)::.sl 21 (yh 0)::.sl 22 (yh 1)::.sl 23 (yh 5)::.sl 24 (yh 6)::.sl 25 (yh 6)::.sl 26 (yh 6)::.sl 27 (yh 2)::.sl 28 (yh 7)::.sl 29 (yh 7)::.sl 59 (yh 0)::.sl 60 (yh 1)::.sl 61 (yh 8)::.sl 62 (yh 9)::.sl 63 (.o (.g [.k (.int .i64 3),.k (.int .i64 0),.k (.slice none 0 0)]))::.bx 0 32 [.k (.int .i64 0),.k (.int .i64 0),.k (.slice none 0 0)]::.bx 22 32 [.h 11,.k (.int .i64 0),.k (.slice none 0 0)]::[]:List Atom)) (C:=((10004,.fb 4 false) ::
  (10006,.fb 6 false) ::
  (10007,.fb 7 false) ::
  (1005001,.call ⟨47,[],[],yh 12,[]⟩) ::
  (1005002,.op (.len [28] 3) [yh 12] [] (yh 13)) ::
  (1005003,.bin .lss 3 (yh 10) (yh 13) (yh 14)) ::
  (10014,.fb 14 true) ::
  (1005004,.call ⟨47,[],[],yh 15,[]⟩) ::
  (1005006,.op (.ia 28) [yh 15,yh 10] [] (yh 16)) ::
  (1005007,.op (.ld 9) [yh 16] [] (yh 17)) ::
  (1005010,.bin .add 3 (yh 1) (LF (.k (.int .i64 1))) (yh 18)) ::
  (1005012,.op (.sc 9 true true false) [yh 0,yh 18,yh 9] [] (yh 19)) ::
  (1005013,.bin .eql 9 (yh 17) (yh 19) (yh 20)) ::
  (10020,.fb 20 false) ::
  (1005015,.bin .add 3 (yh 10) (LF (.k (.int .i64 1))) (yh 21)) ::
  []:List (Nat×Ent))) (H:=.no) 5000 (zipA.imp ⟨z_c yy,z_c yy,z_c yy,z_c yy,z_c yy,z_c yy,z_c yy,z_c yy,z_c yy,z_c yy,z_c yy,z_c yy,z_c yy,z_c yy,z_c yy,z_c yy,z_c yy,z_c yy,z_c yy,z_c yy,z_c yy,z_c yy,z_c yy,z_c yy,z_c yy,z_c yy,z_g ⟨yy,yy,yy,trivial⟩,z_b ⟨yy,yy,yy,trivial⟩,z_b ⟨yy,yy,yy,trivial⟩,trivial⟩) (zg ⟨za,za,za,za,za,za,za,za,za,za,za,za,(ze zN),za,za,(ze zN),(zl (zN _)),za,za,za,za,za,trivial⟩) ⟨e_fbv h3,
  e_fbv h9,
  e_fbv h11,
  zh (zcE  v501 e501),
  zF (E:=9) (by kernel_rfl) (zc rfl) (zb (by rw [← e502];rfl)),
  e_bin (zb rfl) (zb rfl) (zb rfl) (r_cmp (congrArg some e503)),
  e_fbv h504,
  zh (zcE  v505 e505),
  e_iaL (E:=9) (z:=1) (fun _=>rfl) (by kernel_rfl) (by kernel_rfl) (zc rfl) (zb rfl) s508 s509 (zc rfl),
  e_ldP (by kernel_rfl) (zc rfl) (zc rfl),
  e_bin (zb rfl) zd (zb rfl) (r_ar (congrArg some e510)),
  e_op3 (zb rfl) (zb rfl) (zb rfl) (zb rfl) (fun W=>by rw [← e515];exact r_sl (by kernel_rfl) s512 s514 s516 s517 W),
  e_bin (zb rfl) (zb rfl) (zb rfl) (fun W X Y=>by rw [← e518];exact r_seq W X Y),
  e_fbv h519,
  e_bin (zb rfl) zd (zb rfl) (r_ar (congrArg some e520)),
  trivial⟩ mixed hR trivial (fun _ _ _ hs=>by cases hs) (by kernel_rfl:zA (KN w0) Tryz.prog _ .no ⟨ntOf Tryz.prog 33,[],[]⟩ (lp Tryz.prog 33 0) 5000 qN .n (.sl 0 (yh 0)::.sl 1 (yh 1)::.sl 2 (yh 2)::.sl 6 (.o (.c (.p 0 0)))::.sl 7 (.o (.c (.k (.int .i64 0))))::.sl 9 (yh 9)::.sl 10 (.o (.c (.p 22 0)))::.sl 11 (yh 21)::.sl 16 (yh 1)::.sl 17 (yh 0)::.sl 18 (yh 3)::.sl 19 (yh 4)::.sl 20 (yh 4)::.sl 21 (yh 0)::.sl 22 (yh 1)::.sl 23 (yh 5)::.sl 24 (yh 6)::.sl 25 (yh 6)::.sl 26 (yh 6)::.sl 27 (yh 2)::.sl 28 (yh 7)::.sl 29 (yh 7)::.sl 59 (yh 0)::.sl 60 (yh 1)::.sl 61 (yh 8)::.sl 62 (yh 9)::.sl 63 (.o (.g [.k (.int .i64 3),.k (.int .i64 0),.k (.slice none 0 0)]))::.bx 0 32 [.k (.int .i64 0),.k (.int .i64 0),.k (.slice none 0 0)]::.bx 22 32 [.h 11,.k (.int .i64 0),.k (.slice none 0 0)]::[]:List Atom)=true) rfl (zipA.imp ⟨z_c yy,z_c yy,z_c yy,z_c yy,z_c yy,z_c yy,z_c yy,z_c (fun β v W h=>(zc rfl β v W).2 (by rw [← q0];exact h)),z_c yy,z_c yy,z_c yy,z_c yy,z_c yy,z_c yy,z_c yy,z_c yy,z_c yy,z_c yy,z_c yy,z_c yy,z_c yy,z_c yy,z_c yy,z_c yy,z_c yy,z_c yy,z_g ⟨yy,yy,yy,trivial⟩,z_b ⟨yy,yy,yy,trivial⟩,z_b ⟨fun β v W h=>(zc rfl β v W).2 (by rw [← q1];exact h),yy,yy,trivial⟩,trivial⟩)
theorem zn9 {w0:World} (s:(List UInt8)) (a:Int) (d:Int) (N:Nat) (v1:Int) (v2:Bool) (n4:Nat) (b5:UInt8) (v8:Bool) (v10:Bool) (v12:Int) (v13:Int) (IH:qa w0 N) (h3:v2=false) (h9:v8=false) (h11:v10=false) (k:Int) (g:Int) (v501:(List (List UInt8))) (v502:Int) (v503:Bool) (e501:(qA)=v501) (e502:((v501.length:Int))=v502) (e503:(decide (k<v502))=v503) (h504:v503=false) (o:Int) (F:Fact) (u0:F.c 0=pS s) (u1:F.c 1=pI a) (u2:F.c 2=pI d) (u3:F.c 3=pI v1) (u4:F.c 4=pB v2) (u5:F.c 5=pV (.int .u8 (b5.toNat:Int))) (u6:F.c 6=pB v8) (u7:F.c 7=pB v10) (u8:F.c 8=pI v12) (u9:F.c 9=pI v13) (u10:F.c 10=pI o) (q0:(g)=o) (R:Frm) (hR:R.pm=⟨ntOf Tryz.prog 33,[],[]⟩):Goes (KN w0) Tryz.prog R (lp Tryz.prog 33 0) (FL [pS s,pI a,pI d,pI v1,pB v2,pV (.int .u8 (b5.toNat:Int)),pB v8,pB v10,pI v12,pI v13,pI k,pI g] []) qN (.x 0) F zec.out:=
 goes (x:=(.x 0)) (y:=(.x 0)) (Fb:=FL [pS s,pI a,pI d,pI v1,pB v2,pV (.int .u8 (b5.toNat:Int)),pB v8,pB v10,pI v12,pI v13,pI k,pI g,pLs cS v501,pI v502,pB v503] []) (stb:=qN) (tl:=(.sl 0 (yh 0)::.sl 1 (yh 1)::.sl 2 (yh 2)::.sl 6 (.o (.c (.p 0 0)))::.sl 7 (.o (.c (.k (.int .i64 0))))::.sl 9 (yh 9)::.sl 10 (.o (.c (.p 22 0)))::.sl 16 (yh 1)::.sl 17 (yh 0)::.sl 18 (yh 3)::.sl 19 (yh 4)::.sl 20 (yh 4)::.sl 21 (yh 0)::.sl 22 (yh 1)::.sl 23 (yh 5)::.sl 24 (yh 6)::.sl 25 (yh 6)::.sl 26 (yh 6)::.sl 27 (yh 2)::.sl 28 (yh 7)::.sl 29 (yh 7)::.sl 59 (yh 0)::.sl 60 (yh 1)::.sl 61 (yh 8)::.sl 62 (yh 9)::.sl 63 (.o (.g [.k (.int .i64 3),.k (.int .i64 0),.k (.slice none 0 0)]))::.bx 0 32 [.k (.int .i64 0),.k (.int .i64 0),.k (.slice none 0 0)]::.bx 22 32 [.h 11,.k (.int .i64 0),.k (.slice none 0 0)]::[]:List Atom)) (C:=((10004,.fb 4 false) ::
  (10006,.fb 6 false) ::
  (10007,.fb 7 false) ::
  (1005001,.call ⟨47,[],[],yh 12,[]⟩) ::
  (1005002,.op (.len [28] 3) [yh 12] [] (yh 13)) ::
  (1005003,.bin .lss 3 (yh 10) (yh 13) (yh 14)) ::
  (10014,.fb 14 false) ::
  []:List (Nat×Ent))) (H:=.no) 5000 (zipA.imp ⟨z_c yy,z_c yy,z_c yy,z_c yy,z_c yy,z_c yy,z_c yy,z_c yy,z_c yy,z_c yy,z_c yy,z_c yy,z_c yy,z_c yy,z_c yy,z_c yy,z_c yy,z_c yy,z_c yy,z_c yy,z_c yy,z_c yy,z_c yy,z_c yy,z_c yy,z_c yy,z_g ⟨yy,yy,yy,trivial⟩,z_b ⟨yy,yy,yy,trivial⟩,z_b ⟨yy,yy,yy,trivial⟩,trivial⟩) (zg ⟨za,za,za,za,za,za,za,za,za,za,za,za,(ze zN),za,za,trivial⟩) ⟨e_fbv h3,
  e_fbv h9,
  e_fbv h11,
  zh (zcE  v501 e501),
  zF (E:=9) (by kernel_rfl) (zc rfl) (zb (by rw [← e502];rfl)),
  e_bin (zb rfl) (zb rfl) (zb rfl) (r_cmp (congrArg some e503)),
  e_fbv h504,
  trivial⟩ mixed hR trivial (fun _ _ _ hs=>by cases hs) (by kernel_rfl:zA (KN w0) Tryz.prog _ .no ⟨ntOf Tryz.prog 33,[],[]⟩ (lp Tryz.prog 33 0) 5000 qN (.x 0) (.sl 0 (yh 0)::.sl 1 (yh 1)::.sl 2 (yh 2)::.sl 6 (.o (.c (.p 0 0)))::.sl 7 (.o (.c (.k (.int .i64 0))))::.sl 9 (yh 9)::.sl 10 (.o (.c (.p 22 0)))::.sl 16 (yh 1)::.sl 17 (yh 0)::.sl 18 (yh 3)::.sl 19 (yh 4)::.sl 20 (yh 4)::.sl 21 (yh 0)::.sl 22 (yh 1)::.sl 23 (yh 5)::.sl 24 (yh 6)::.sl 25 (yh 6)::.sl 26 (yh 6)::.sl 27 (yh 2)::.sl 28 (yh 7)::.sl 29 (yh 7)::.sl 59 (yh 0)::.sl 60 (yh 1)::.sl 61 (yh 8)::.sl 62 (yh 9)::.sl 63 (.o (.g [.k (.int .i64 3),.k (.int .i64 0),.k (.slice none 0 0)]))::.bx 0 32 [.k (.int .i64 0),.k (.int .i64 0),.k (.slice none 0 0)]::.bx 22 32 [.h 11,.k (.int .i64 0),.k (.slice none 0 0)]::[]:List Atom)=true) rfl (zipA.imp ⟨z_c (fun β v W h=>(zc u0 β v W).2 h),z_c (fun β v W h=>(zc u1 β v W).2 h),z_c (fun β v W h=>(zc u2 β v W).2 h),z_c yy,z_c yy,z_c (fun β v W h=>(zc u9 β v W).2 h),z_c yy,z_c (fun β v W h=>(zc u1 β v W).2 h),z_c (fun β v W h=>(zc u0 β v W).2 h),z_c (fun β v W h=>(zc u3 β v W).2 h),z_c (fun β v W h=>(zc u4 β v W).2 h),z_c (fun β v W h=>(zc u4 β v W).2 h),z_c (fun β v W h=>(zc u0 β v W).2 h),z_c (fun β v W h=>(zc u1 β v W).2 h),z_c (fun β v W h=>(zc u5 β v W).2 h),z_c (fun β v W h=>(zc u6 β v W).2 h),z_c (fun β v W h=>(zc u6 β v W).2 h),z_c (fun β v W h=>(zc u6 β v W).2 h),z_c (fun β v W h=>(zc u2 β v W).2 h),z_c (fun β v W h=>(zc u7 β v W).2 h),z_c (fun β v W h=>(zc u7 β v W).2 h),z_c (fun β v W h=>(zc u0 β v W).2 h),z_c (fun β v W h=>(zc u1 β v W).2 h),z_c (fun β v W h=>(zc u8 β v W).2 h),z_c (fun β v W h=>(zc u9 β v W).2 h),z_g ⟨yy,yy,yy,trivial⟩,z_b ⟨yy,yy,yy,trivial⟩,z_b ⟨fun β v W h=>(zc u10 β v W).2 (by rw [← q0];exact h),yy,yy,trivial⟩,trivial⟩)
def zpg (s:(List UInt8)) (a:Int) (d:Int) (N:Nat) (v1:Int) (v2:Bool) (n4:Nat) (b5:UInt8) (v8:Bool) (v10:Bool) (v12:Int) (v13:Int) (t:rr_A_T) (o:Int):Prop:=(∃(v501:(List (List UInt8))),∃(v502:Int),∃(v503:Bool),((qA)=v501)∧(((v501.length:Int))=v502)∧((decide (t.k<v502))=v503)∧(v503=false)∧((t.g)=o)∧True)
def zpf (s:(List UInt8)) (a:Int) (d:Int) (N:Nat) (v1:Int) (v2:Bool) (n4:Nat) (b5:UInt8) (v8:Bool) (v10:Bool) (v12:Int) (v13:Int) (t t':rr_A_T):Prop:=(∃(v501:(List (List UInt8))),∃(v502:Int),∃(v503:Bool),∃(v505:(List (List UInt8))),∃(n506:Nat),∃(x507:(List UInt8)),∃(v510:Int),∃(n511:Nat),∃(n513:Nat),∃(v515:(List UInt8)),∃(v518:Bool),∃(v520:Int),∃(v521:Int),((qA)=v501)∧(((v501.length:Int))=v502)∧((decide (t.k<v502))=v503)∧((qA)=v505)∧((IntKind.i64.wrap (a+(1:Int)))=v510)∧((((s:List UInt8).drop n511).take (n513 - n511))=v515)∧((((x507:List UInt8) == v515))=v518)∧((IntKind.i64.wrap ((3:Int)+t.k))=v520)∧((IntKind.i64.wrap (t.k+(1:Int)))=v521)∧(v503=true)∧(t.k=(n506:Int))∧(v505[n506]?=some x507)∧(v510=(n511:Int))∧(v13=(n513:Int))∧(n511≤n513)∧(n513≤(s:List UInt8).length)∧(v518=true)∧((v521)=t'.k)∧((v520)=t'.g)∧True)∨(∃(v501:(List (List UInt8))),∃(v502:Int),∃(v503:Bool),∃(v505:(List (List UInt8))),∃(n506:Nat),∃(x507:(List UInt8)),∃(v510:Int),∃(n511:Nat),∃(n513:Nat),∃(v515:(List UInt8)),∃(v518:Bool),∃(v520:Int),((qA)=v501)∧(((v501.length:Int))=v502)∧((decide (t.k<v502))=v503)∧((qA)=v505)∧((IntKind.i64.wrap (a+(1:Int)))=v510)∧((((s:List UInt8).drop n511).take (n513 - n511))=v515)∧((((x507:List UInt8) == v515))=v518)∧((IntKind.i64.wrap (t.k+(1:Int)))=v520)∧(v503=true)∧(t.k=(n506:Int))∧(v505[n506]?=some x507)∧(v510=(n511:Int))∧(v13=(n513:Int))∧(n511≤n513)∧(n513≤(s:List UInt8).length)∧(v518=false)∧((v520)=t'.k)∧((t.g)=t'.g)∧True)
theorem zks {w0:World} (s:(List UInt8)) (a:Int) (d:Int) (N:Nat) (v1:Int) (v2:Bool) (n4:Nat) (b5:UInt8) (v8:Bool) (v10:Bool) (v12:Int) (v13:Int) (IH:qa w0 N) (h3:v2=false) (h9:v8=false) (h11:v10=false) (o:Int) {F:Fact} (u0:F.c 0=pS s) (u1:F.c 1=pI a) (u2:F.c 2=pI d) (u3:F.c 3=pI v1) (u4:F.c 4=pB v2) (u5:F.c 5=pV (.int .u8 (b5.toNat:Int))) (u6:F.c 6=pB v8) (u7:F.c 7=pB v10) (u8:F.c 8=pI v12) (u9:F.c 9=pI v13) (u10:F.c 10=pI o) (R:Frm) (hR:R.pm=⟨ntOf Tryz.prog 33,[],[]⟩) (J:rr_A_T→Prop) (m:rr_A_T→Nat) (hJ:J { k:=(0:Int),g:=(3:Int) }) (rounds:∀t,J t→zpg s a d N v1 v2 n4 b5 v8 v10 v12 v13 t o∨∃t',zpf s a d N v1 v2 n4 b5 v8 v10 v12 v13 t t'∧m t'<m t∧J t'):zi (KN w0) Tryz.prog F R zec (lp Tryz.prog 33 0):=by
 refine zB (T:=rr_A_T) (fun t=>FL [pS s,pI a,pI d,pI v1,pB v2,pV (.int .u8 (b5.toNat:Int)),pB v8,pB v10,pI v12,pI v13,pI t.k,pI t.g] []) J m { k:=(0:Int),g:=(3:Int) } qN hJ (zipA.imp ⟨z_c (fun β v W h=>(zc u0 β v W).1 h),z_c (fun β v W h=>(zc u1 β v W).1 h),z_c (fun β v W h=>(zc u2 β v W).1 h),z_c yy,z_c yy,z_c (fun β v W h=>(zc u9 β v W).1 h),z_c yy,z_c yy,z_c (fun β v W h=>(zc u1 β v W).1 h),z_c (fun β v W h=>(zc u0 β v W).1 h),z_c (fun β v W h=>(zc u3 β v W).1 h),z_c (fun β v W h=>(zc u4 β v W).1 h),z_c (fun β v W h=>(zc u4 β v W).1 h),z_c (fun β v W h=>(zc u0 β v W).1 h),z_c (fun β v W h=>(zc u1 β v W).1 h),z_c (fun β v W h=>(zc u5 β v W).1 h),z_c (fun β v W h=>(zc u6 β v W).1 h),z_c (fun β v W h=>(zc u6 β v W).1 h),z_c (fun β v W h=>(zc u6 β v W).1 h),z_c (fun β v W h=>(zc u2 β v W).1 h),z_c (fun β v W h=>(zc u7 β v W).1 h),z_c (fun β v W h=>(zc u7 β v W).1 h),z_c (fun β v W h=>(zc u0 β v W).1 h),z_c (fun β v W h=>(zc u1 β v W).1 h),z_c (fun β v W h=>(zc u8 β v W).1 h),z_c (fun β v W h=>(zc u9 β v W).1 h),z_g ⟨yy,yy,yy,trivial⟩,z_b ⟨yy,yy,yy,trivial⟩,z_b ⟨yy,yy,yy,trivial⟩,trivial⟩) rfl fun t ht=>?_
 rcases rounds t ht with hz_ | ⟨t',hz_,hm_,hj_⟩
 ·refine .inl ?_
  rcases hz_ with ⟨v501,v502,v503,e501,e502,e503,h504,q0,_⟩
  ·exact zn9  s a d N v1 v2 n4 b5 v8 v10 v12 v13 IH h3 h9 h11 t.k t.g v501 v502 v503 e501 e502 e503 h504 o F u0 u1 u2 u3 u4 u5 u6 u7 u8 u9 u10 q0 R hR
 ·refine .inr ⟨t',hm_,hj_,?_⟩
  rcases hz_ with ⟨v501,v502,v503,v505,n506,x507,v510,n511,n513,v515,v518,v520,v521,e501,e502,e503,e505,e510,e515,e518,e520,e521,h504,s508,s509,s512,s514,s516,s517,h519,q0,q1,_⟩ | ⟨v501,v502,v503,v505,n506,x507,v510,n511,n513,v515,v518,v520,e501,e502,e503,e505,e510,e515,e518,e520,h504,s508,s509,s512,s514,s516,s517,h519,q0,q1,_⟩
  ·exact zn7  s a d N v1 v2 n4 b5 v8 v10 v12 v13 IH h3 h9 h11 t.k t.g v501 v502 v503 v505 n506 x507 v510 n511 n513 v515 v518 v520 v521 e501 e502 e503 e505 e510 e515 e518 e520 e521 h504 s508 s509 s512 s514 s516 s517 h519 t'.k t'.g q0 q1 R hR
  ·exact zn8  s a d N v1 v2 n4 b5 v8 v10 v12 v13 IH h3 h9 h11 t.k t.g v501 v502 v503 v505 n506 x507 v510 n511 n513 v515 v518 v520 e501 e502 e503 e505 e510 e515 e518 e520 h504 s508 s509 s512 s514 s516 s517 h519 t'.k t'.g q0 q1 R hR
theorem zn6 {w0:World} (s:(List UInt8)) (a:Int) (d:Int) (N:Nat) (v1:Int) (v2:Bool) (n4:Nat) (b5:UInt8) (v8:Bool) (v10:Bool) (v12:Int) (v13:Int) (IH:qa w0 N) (h3:v2=false) (h9:v8=false) (h11:v10=false) (o:Int) {F:Fact} (u0:F.c 0=pS s) (u1:F.c 1=pI a) (u2:F.c 2=pI d) (u3:F.c 3=pI v1) (u4:F.c 4=pB v2) (u5:F.c 5=pV (.int .u8 (b5.toNat:Int))) (u6:F.c 6=pB v8) (u7:F.c 7=pB v10) (u8:F.c 8=pI v12) (u9:F.c 9=pI v13) (u10:F.c 10=pI o) (R:Frm) (hR:R.pm=⟨ntOf Tryz.prog 33,[],[]⟩) (h0:0≤a∧a<(s.length:Int)∧s.length≤1000000) (h12:v12=a+1) (h13:v12+((wordW (s.drop v12.toNat)).length:Int)=v13) (hO:opN 5 (wordW (s.drop v12.toNat))=o):zi (KN w0) Tryz.prog F R zec (lp Tryz.prog 33 0):=by
 refine zks  s a d N v1 v2 n4 b5 v8 v10 v12 v13 IH h3 h9 h11 o u0 u1 u2 u3 u4 u5 u6 u7 u8 u9 u10 R hR (fun ⟨k,g⟩=>∃j:Nat,k=(j:Int)∧j≤5∧opN j (wordW (s.drop v12.toNat))=g) (fun ⟨k,g⟩=>((5:Int) - k).toNat) ⟨0,rfl,by decide,rfl⟩ fun t hJ=>?_
 obtain ⟨k,g⟩:=t
 dsimp only at hJ
 obtain ⟨j,hi,hj,ho⟩:=hJ
 have hsl:=fun n m=>zkx (s:=s) (n:=n) (m:=m) (by omega) h13
 obtain ⟨v501,e501⟩:∃v,(qA)=v:=⟨_,rfl⟩
 obtain ⟨v502,e502⟩:∃v,((v501.length:Int))=v:=⟨_,rfl⟩
 obtain ⟨v503,e503⟩:∃v,(decide (k<v502))=v:=⟨_,rfl⟩
 cases h504:v503 with
 | true =>
  obtain ⟨v505,e505⟩:∃v,(qA)=v:=⟨_,rfl⟩
  obtain ⟨n506,x507,s508,s509⟩:∃(n506:Nat) (x507:(List UInt8)),k=(n506:Int)∧v505[n506]?=some x507:=by (have dh504:=of_decide_eq_true (e503.trans h504);have hz:v502=5:=(by rw [← e502,← e501];rfl);have hlt:j<v505.length:=(by rw [← e505];show j<5;omega);exact ⟨j,_,hi,List.getElem?_eq_getElem hlt⟩)
  obtain ⟨v510,e510⟩:∃v,(IntKind.i64.wrap (a+(1:Int)))=v:=⟨_,rfl⟩
  obtain ⟨n511,s512⟩:∃(n511:Nat),v510=(n511:Int):=by (exact ⟨(a+1).toNat,by rw [← e510,wri (by omega)];omega⟩)
  obtain ⟨n513,s514⟩:∃(n513:Nat),v13=(n513:Int):=by (have q:=hsl (a+1).toNat v13.toNat (by omega) (by have:=(zq (s:=s) (a:=v12) (by omega) h13);omega);exact ⟨v13.toNat,by have:=(zq (s:=s) (a:=v12) (by omega) h13);omega⟩)
  obtain ⟨v515,e515⟩:∃v,(((s:List UInt8).drop n511).take (n513 - n511))=v:=⟨_,rfl⟩
  have s516:n511≤n513:=by (have hv:v510=a+1:=(by rw [← e510,wri (by omega)]);have:=(zq (s:=s) (a:=v12) (by omega) h13);omega)
  have s517:n513≤(s:List UInt8).length:=by (have hv:v510=a+1:=(by rw [← e510,wri (by omega)]);have:=(zq (s:=s) (a:=v12) (by omega) h13);omega)
  obtain ⟨v518,e518⟩:∃v,(((x507:List UInt8) == v515))=v:=⟨_,rfl⟩
  cases h519:v518 with
  | true =>
   obtain ⟨v520,e520⟩:∃v,(IntKind.i64.wrap ((3:Int)+k))=v:=⟨_,rfl⟩
   obtain ⟨v521,e521⟩:∃v,(IntKind.i64.wrap (k+(1:Int)))=v:=⟨_,rfl⟩
   refine .inr ⟨⟨v521,v520⟩,Or.inl (⟨v501,v502,v503,v505,n506,x507,v510,n511,n513,v515,v518,v520,v521,e501,e502,e503,e505,e510,e515,e518,e520,e521,h504,s508,s509,s512,s514,s516,s517,h519,rfl,rfl,trivial⟩),?_,?_⟩
   all_goals (have hz:v502=5:=(by rw [← e502,← e501];rfl);have dh504:=of_decide_eq_true (e503.trans h504);have dh519:=eq_of_beq (e518.trans h519);obtain rfl:n506=j:=(by omega);have hm:qA[n506]?=some x507:=(by rw [e505];exact s509);have hv:v510=a+1:=(by rw [← e510,wri (by omega)]);have hw:v515=(wordW (s.drop v12.toNat)):=(by rw [← e515];exact (hsl n511 n513 (by omega) (by omega)).1);have x3:v521=((n506+1:Nat):Int):=(by rw [← e521,hi,wri (by omega)];omega))
   ·show ((5:Int) - v521).toNat<((5:Int) - k).toNat
    omega
   ·exact ⟨n506+1,x3,by omega,by rw [znL hm (dh519.trans hw),← e520,hi,wri (by omega)]⟩
  | false =>
   obtain ⟨v520,e520⟩:∃v,(IntKind.i64.wrap (k+(1:Int)))=v:=⟨_,rfl⟩
   refine .inr ⟨⟨v520,g⟩,Or.inr (⟨v501,v502,v503,v505,n506,x507,v510,n511,n513,v515,v518,v520,e501,e502,e503,e505,e510,e515,e518,e520,h504,s508,s509,s512,s514,s516,s517,h519,rfl,rfl,trivial⟩),?_,?_⟩
   all_goals (have hz:v502=5:=(by rw [← e502,← e501];rfl);have dh504:=of_decide_eq_true (e503.trans h504);have dh519:=ne_of_beq_false (e518.trans h519);obtain rfl:n506=j:=(by omega);have hm:qA[n506]?=some x507:=(by rw [e505];exact s509);have hv:v510=a+1:=(by rw [← e510,wri (by omega)]);have hw:v515=(wordW (s.drop v12.toNat)):=(by rw [← e515];exact (hsl n511 n513 (by omega) (by omega)).1);have x3:v520=((n506+1:Nat):Int):=(by rw [← e520,hi,wri (by omega)];omega))
   ·show ((5:Int) - v520).toNat<((5:Int) - k).toNat
    omega
   ·exact ⟨n506+1,x3,by omega,by rw [zd4 hm (fun z=>dh519 (z.trans hw.symm))];exact ho⟩
 | false =>
  refine .inl (⟨v501,v502,v503,e501,e502,e503,h504,?_,trivial⟩)
  show g=o
  have hz:v502=5:=(by rw [← e502,← e501];rfl);have dh504:=of_decide_eq_false (e503.trans h504)
  obtain rfl:j=5:=(by omega)
  exact ho.symm.trans hO
theorem ziS {w0:World} (s:(List UInt8)) (a:Int) (d:Int) (N:Nat) (IH:qa w0 N) (v1:Int) (v2:Bool) (v4:Int) (v7:Bool) (v9:Int) (n10:Nat) (n12:Nat) (v14:(List UInt8)) (v17:Int) (e1:(((s:List UInt8).length:Int))=v1) (e2:(decide (a ≥ v1))=v2) (e4:(a+((wordW (s.drop a.toNat)).length:Int))=v4) (e7:(decide (a<v4))=v7) (e9:((if v4<a then v4 else a))=v9) (e14:(((s:List UInt8).drop n10).take (n12 - n10))=v14) (e17:(numR v14)=v17) (h3:v2=true) (s5:0≤a∧a≤1000000) (s6:(s:List UInt8).length≤1000000) (s8:v7=false) (s11:v9=(n10:Int)) (s13:v4=(n12:Int)) (s15:n10≤n12) (s16:n12≤(s:List UInt8).length):Fun (KN w0) Tryz.prog 33 [.o (.c (pS s)),.o (.c (pI a)),.o (.c (pI d))] (.t [.g [pV (.int .i64 1),pI v17,pV (.slice none 0 0)],.c (pI v4)]):=
 zk (zr (F:=FL [pS s,pI a,pI d,pI v1,pB v2,pI v4,pB v7,pI v9,pS v14,pI v17] []) (C:=[(1000004,.op (.len [9] 3) [yh 0] [] (yh 3)),
  (1000005,.bin .geq 3 (yh 1) (yh 3) (yh 4)),
  (10004,.fb 4 true),
  (1000018,.call ⟨56,[yh 0,yh 1],[],yh 5,[]⟩),
  (1000022,.bin .lss 3 (yh 1) (yh 5) (yh 6)),
  (10006,.fb 6 false),
  (1000032,.op (.min [3,3] 3) [yh 1,yh 5] [] (yh 7)),
  (1000034,.op (.sc 9 true true false) [yh 0,yh 7,yh 5] [] (yh 8)),
  (1000035,.call ⟨57,[yh 8],[],yh 9,[]⟩)]) (k:=⟨33,[yh 0,yh 1,yh 2],[],.t [.g [.k (.int .i64 1),.h 9,.k (.slice none 0 0)],.c (.h 5)],[]⟩) 0 (zg ⟨za,za,za,za,za,za,za,za,za,za,trivial⟩) ⟨e_op1 (zb rfl) (zb rfl) (fun W=>by rw [← e1];exact qf (by kernel_rfl) W),
  e_bin (zb rfl) (zb rfl) (zb rfl) (r_cmp (congrArg some e2)),
  e_fbv h3,
  zh (zcF s a v4 e4 s5 s6),
  e_bin (zb rfl) (zb rfl) (zb rfl) (r_cmp (congrArg some e7)),
  e_fbv s8,
  e_op2 (zb rfl) (zb rfl) (zb rfl) (fun W=>by rw [← e9];exact zaV W),
  e_op3 (zb rfl) (zb rfl) (zb rfl) (zb rfl) (fun W=>by rw [← e14];exact r_sl (by kernel_rfl) s11 s13 s15 s16 W),
  zh (zbt v14 v17 e17),
  trivial⟩ mixed (by kernel_rfl))
theorem ziT {w0:World} (s:(List UInt8)) (a:Int) (d:Int) (N:Nat) (IH:qa w0 N) (v1:Int) (v2:Bool) (n4:Nat) (b5:UInt8) (v8:Bool) (v10:Int) (v13:Bool) (n15:Nat) (b16:UInt8) (v19:Bool) (v21:Int) (n22:Nat) (n24:Nat) (v26:(List UInt8)) (v29:Int) (e1:(((s:List UInt8).length:Int))=v1) (e2:(decide (a ≥ v1))=v2) (e8:(((b5.toNat:Int) != (40:Int)))=v8) (e10:(a+((wordW (s.drop a.toNat)).length:Int))=v10) (e13:(decide (a<v10))=v13) (e19:(((b16.toNat:Int) == (36:Int)))=v19) (e21:(IntKind.i64.wrap (a+(1:Int)))=v21) (e26:(((s:List UInt8).drop n22).take (n24 - n22))=v26) (e29:(numR v26)=v29) (h3:v2=false) (s6:a=(n4:Int)) (s7:(s:List UInt8)[n4]?=some b5) (h9:v8=true) (s11:0≤a∧a≤1000000) (s12:(s:List UInt8).length≤1000000) (h14:v13=true) (s17:a=(n15:Int)) (s18:(s:List UInt8)[n15]?=some b16) (h20:v19=true) (s23:v21=(n22:Int)) (s25:v10=(n24:Int)) (s27:n22≤n24) (s28:n24≤(s:List UInt8).length):Fun (KN w0) Tryz.prog 33 [.o (.c (pS s)),.o (.c (pI a)),.o (.c (pI d))] (.t [.g [pV (.int .i64 2),pI v29,pV (.slice none 0 0)],.c (pI v10)]):=
 zk (zr (F:=FL [pS s,pI a,pI d,pI v1,pB v2,pV (.int .u8 (b5.toNat:Int)),pB v8,pI v10,pB v13,pV (.int .u8 (b16.toNat:Int)),pB v19,pI v21,pS v26,pI v29] []) (C:=[(1000004,.op (.len [9] 3) [yh 0] [] (yh 3)),
  (1000005,.bin .geq 3 (yh 1) (yh 3) (yh 4)),
  (10004,.fb 4 false),
  (1000009,.op (.ix 9) [yh 0,yh 1] [] (yh 5)),
  (1000010,.bin .neq 5 (yh 5) (LF (.k (.int .u8 40))) (yh 6)),
  (10006,.fb 6 true),
  (1000018,.call ⟨56,[yh 0,yh 1],[],yh 7,[]⟩),
  (1000022,.bin .lss 3 (yh 1) (yh 7) (yh 8)),
  (10008,.fb 8 true),
  (1000026,.op (.ix 9) [yh 0,yh 1] [] (yh 9)),
  (1000027,.bin .eql 5 (yh 9) (LF (.k (.int .u8 36))) (yh 10)),
  (10010,.fb 10 true),
  (1000031,.bin .add 3 (yh 1) (LF (.k (.int .i64 1))) (yh 11)),
  (1000033,.op (.sc 9 true true false) [yh 0,yh 11,yh 7] [] (yh 12)),
  (1000034,.call ⟨57,[yh 12],[],yh 13,[]⟩)]) (k:=⟨33,[yh 0,yh 1,yh 2],[],.t [.g [.k (.int .i64 2),.h 13,.k (.slice none 0 0)],.c (.h 7)],[]⟩) 0 (zg ⟨za,za,za,za,za,za,za,za,za,za,za,za,za,za,trivial⟩) ⟨e_op1 (zb rfl) (zb rfl) (fun W=>by rw [← e1];exact qf (by kernel_rfl) W),
  e_bin (zb rfl) (zb rfl) (zb rfl) (r_cmp (congrArg some e2)),
  e_fbv h3,
  e_op2 (zb rfl) (zb rfl) (zb rfl) (r_ix (by kernel_rfl) s6 s7),
  e_bin (zb rfl) zd (zb rfl) (r_cmp (congrArg some e8)),
  e_fbv h9,
  zh (zcF s a v10 e10 s11 s12),
  e_bin (zb rfl) (zb rfl) (zb rfl) (r_cmp (congrArg some e13)),
  e_fbv h14,
  e_op2 (zb rfl) (zb rfl) (zb rfl) (r_ix (by kernel_rfl) s17 s18),
  e_bin (zb rfl) zd (zb rfl) (r_cmp (congrArg some e19)),
  e_fbv h20,
  e_bin (zb rfl) zd (zb rfl) (r_ar (congrArg some e21)),
  e_op3 (zb rfl) (zb rfl) (zb rfl) (zb rfl) (fun W=>by rw [← e26];exact r_sl (by kernel_rfl) s23 s25 s27 s28 W),
  zh (zbt v26 v29 e29),
  trivial⟩ mixed (by kernel_rfl))
theorem ziU {w0:World} (s:(List UInt8)) (a:Int) (d:Int) (N:Nat) (IH:qa w0 N) (v1:Int) (v2:Bool) (n4:Nat) (b5:UInt8) (v8:Bool) (v10:Int) (v13:Bool) (n15:Nat) (b16:UInt8) (v19:Bool) (v21:Int) (n22:Nat) (n24:Nat) (v26:(List UInt8)) (v29:Int) (e1:(((s:List UInt8).length:Int))=v1) (e2:(decide (a ≥ v1))=v2) (e8:(((b5.toNat:Int) != (40:Int)))=v8) (e10:(a+((wordW (s.drop a.toNat)).length:Int))=v10) (e13:(decide (a<v10))=v13) (e19:(((b16.toNat:Int) == (36:Int)))=v19) (e21:((if v10<a then v10 else a))=v21) (e26:(((s:List UInt8).drop n22).take (n24 - n22))=v26) (e29:(numR v26)=v29) (h3:v2=false) (s6:a=(n4:Int)) (s7:(s:List UInt8)[n4]?=some b5) (h9:v8=true) (s11:0≤a∧a≤1000000) (s12:(s:List UInt8).length≤1000000) (h14:v13=true) (s17:a=(n15:Int)) (s18:(s:List UInt8)[n15]?=some b16) (h20:v19=false) (s23:v21=(n22:Int)) (s25:v10=(n24:Int)) (s27:n22≤n24) (s28:n24≤(s:List UInt8).length):Fun (KN w0) Tryz.prog 33 [.o (.c (pS s)),.o (.c (pI a)),.o (.c (pI d))] (.t [.g [pV (.int .i64 1),pI v29,pV (.slice none 0 0)],.c (pI v10)]):=
 zk (zr (F:=FL [pS s,pI a,pI d,pI v1,pB v2,pV (.int .u8 (b5.toNat:Int)),pB v8,pI v10,pB v13,pV (.int .u8 (b16.toNat:Int)),pB v19,pI v21,pS v26,pI v29] []) (C:=[(1000004,.op (.len [9] 3) [yh 0] [] (yh 3)),
  (1000005,.bin .geq 3 (yh 1) (yh 3) (yh 4)),
  (10004,.fb 4 false),
  (1000009,.op (.ix 9) [yh 0,yh 1] [] (yh 5)),
  (1000010,.bin .neq 5 (yh 5) (LF (.k (.int .u8 40))) (yh 6)),
  (10006,.fb 6 true),
  (1000018,.call ⟨56,[yh 0,yh 1],[],yh 7,[]⟩),
  (1000022,.bin .lss 3 (yh 1) (yh 7) (yh 8)),
  (10008,.fb 8 true),
  (1000026,.op (.ix 9) [yh 0,yh 1] [] (yh 9)),
  (1000027,.bin .eql 5 (yh 9) (LF (.k (.int .u8 36))) (yh 10)),
  (10010,.fb 10 false),
  (1000032,.op (.min [3,3] 3) [yh 1,yh 7] [] (yh 11)),
  (1000034,.op (.sc 9 true true false) [yh 0,yh 11,yh 7] [] (yh 12)),
  (1000035,.call ⟨57,[yh 12],[],yh 13,[]⟩)]) (k:=⟨33,[yh 0,yh 1,yh 2],[],.t [.g [.k (.int .i64 1),.h 13,.k (.slice none 0 0)],.c (.h 7)],[]⟩) 0 (zg ⟨za,za,za,za,za,za,za,za,za,za,za,za,za,za,trivial⟩) ⟨e_op1 (zb rfl) (zb rfl) (fun W=>by rw [← e1];exact qf (by kernel_rfl) W),
  e_bin (zb rfl) (zb rfl) (zb rfl) (r_cmp (congrArg some e2)),
  e_fbv h3,
  e_op2 (zb rfl) (zb rfl) (zb rfl) (r_ix (by kernel_rfl) s6 s7),
  e_bin (zb rfl) zd (zb rfl) (r_cmp (congrArg some e8)),
  e_fbv h9,
  zh (zcF s a v10 e10 s11 s12),
  e_bin (zb rfl) (zb rfl) (zb rfl) (r_cmp (congrArg some e13)),
  e_fbv h14,
  e_op2 (zb rfl) (zb rfl) (zb rfl) (r_ix (by kernel_rfl) s17 s18),
  e_bin (zb rfl) zd (zb rfl) (r_cmp (congrArg some e19)),
  e_fbv h20,
  e_op2 (zb rfl) (zb rfl) (zb rfl) (fun W=>by rw [← e21];exact zaV W),
  e_op3 (zb rfl) (zb rfl) (zb rfl) (zb rfl) (fun W=>by rw [← e26];exact r_sl (by kernel_rfl) s23 s25 s27 s28 W),
  zh (zbt v26 v29 e29),
  trivial⟩ mixed (by kernel_rfl))
theorem ziV {w0:World} (s:(List UInt8)) (a:Int) (d:Int) (N:Nat) (IH:qa w0 N) (v1:Int) (v2:Bool) (n4:Nat) (b5:UInt8) (v8:Bool) (v10:Int) (v13:Bool) (v15:Int) (n16:Nat) (n18:Nat) (v20:(List UInt8)) (v23:Int) (e1:(((s:List UInt8).length:Int))=v1) (e2:(decide (a ≥ v1))=v2) (e8:(((b5.toNat:Int) != (40:Int)))=v8) (e10:(a+((wordW (s.drop a.toNat)).length:Int))=v10) (e13:(decide (a<v10))=v13) (e15:((if v10<a then v10 else a))=v15) (e20:(((s:List UInt8).drop n16).take (n18 - n16))=v20) (e23:(numR v20)=v23) (h3:v2=false) (s6:a=(n4:Int)) (s7:(s:List UInt8)[n4]?=some b5) (h9:v8=true) (s11:0≤a∧a≤1000000) (s12:(s:List UInt8).length≤1000000) (h14:v13=false) (s17:v15=(n16:Int)) (s19:v10=(n18:Int)) (s21:n16≤n18) (s22:n18≤(s:List UInt8).length):Fun (KN w0) Tryz.prog 33 [.o (.c (pS s)),.o (.c (pI a)),.o (.c (pI d))] (.t [.g [pV (.int .i64 1),pI v23,pV (.slice none 0 0)],.c (pI v10)]):=
 zk (zr (F:=FL [pS s,pI a,pI d,pI v1,pB v2,pV (.int .u8 (b5.toNat:Int)),pB v8,pI v10,pB v13,pI v15,pS v20,pI v23] []) (C:=[(1000004,.op (.len [9] 3) [yh 0] [] (yh 3)),
  (1000005,.bin .geq 3 (yh 1) (yh 3) (yh 4)),
  (10004,.fb 4 false),
  (1000009,.op (.ix 9) [yh 0,yh 1] [] (yh 5)),
  (1000010,.bin .neq 5 (yh 5) (LF (.k (.int .u8 40))) (yh 6)),
  (10006,.fb 6 true),
  (1000018,.call ⟨56,[yh 0,yh 1],[],yh 7,[]⟩),
  (1000022,.bin .lss 3 (yh 1) (yh 7) (yh 8)),
  (10008,.fb 8 false),
  (1000032,.op (.min [3,3] 3) [yh 1,yh 7] [] (yh 9)),
  (1000034,.op (.sc 9 true true false) [yh 0,yh 9,yh 7] [] (yh 10)),
  (1000035,.call ⟨57,[yh 10],[],yh 11,[]⟩)]) (k:=⟨33,[yh 0,yh 1,yh 2],[],.t [.g [.k (.int .i64 1),.h 11,.k (.slice none 0 0)],.c (.h 7)],[]⟩) 0 (zg ⟨za,za,za,za,za,za,za,za,za,za,za,za,trivial⟩) ⟨e_op1 (zb rfl) (zb rfl) (fun W=>by rw [← e1];exact qf (by kernel_rfl) W),
  e_bin (zb rfl) (zb rfl) (zb rfl) (r_cmp (congrArg some e2)),
  e_fbv h3,
  e_op2 (zb rfl) (zb rfl) (zb rfl) (r_ix (by kernel_rfl) s6 s7),
  e_bin (zb rfl) zd (zb rfl) (r_cmp (congrArg some e8)),
  e_fbv h9,
  zh (zcF s a v10 e10 s11 s12),
  e_bin (zb rfl) (zb rfl) (zb rfl) (r_cmp (congrArg some e13)),
  e_fbv h14,
  e_op2 (zb rfl) (zb rfl) (zb rfl) (fun W=>by rw [← e15];exact zaV W),
  e_op3 (zb rfl) (zb rfl) (zb rfl) (zb rfl) (fun W=>by rw [← e20];exact r_sl (by kernel_rfl) s17 s19 s21 s22 W),
  zh (zbt v20 v23 e23),
  trivial⟩ mixed (by kernel_rfl))
theorem ziW {w0:World} (s:(List UInt8)) (a:Int) (d:Int) (N:Nat) (IH:qa w0 N) (v1:Int) (v2:Bool) (n4:Nat) (b5:UInt8) (v8:Bool) (v10:Bool) (v12:Int) (v15:Bool) (v17:Int) (n18:Nat) (n20:Nat) (v22:(List UInt8)) (v25:Int) (e1:(((s:List UInt8).length:Int))=v1) (e2:(decide (a ≥ v1))=v2) (e8:(((b5.toNat:Int) != (40:Int)))=v8) (e10:((d == (0:Int)))=v10) (e12:(a+((wordW (s.drop a.toNat)).length:Int))=v12) (e15:(decide (a<v12))=v15) (e17:((if v12<a then v12 else a))=v17) (e22:(((s:List UInt8).drop n18).take (n20 - n18))=v22) (e25:(numR v22)=v25) (h3:v2=false) (s6:a=(n4:Int)) (s7:(s:List UInt8)[n4]?=some b5) (h9:v8=false) (h11:v10=true) (s13:0≤a∧a≤1000000) (s14:(s:List UInt8).length≤1000000) (s16:v15=false) (s19:v17=(n18:Int)) (s21:v12=(n20:Int)) (s23:n18≤n20) (s24:n20≤(s:List UInt8).length):Fun (KN w0) Tryz.prog 33 [.o (.c (pS s)),.o (.c (pI a)),.o (.c (pI d))] (.t [.g [pV (.int .i64 1),pI v25,pV (.slice none 0 0)],.c (pI v12)]):=
 zk (zr (F:=FL [pS s,pI a,pI d,pI v1,pB v2,pV (.int .u8 (b5.toNat:Int)),pB v8,pB v10,pI v12,pB v15,pI v17,pS v22,pI v25] []) (C:=[(1000004,.op (.len [9] 3) [yh 0] [] (yh 3)),
  (1000005,.bin .geq 3 (yh 1) (yh 3) (yh 4)),
  (10004,.fb 4 false),
  (1000009,.op (.ix 9) [yh 0,yh 1] [] (yh 5)),
  (1000010,.bin .neq 5 (yh 5) (LF (.k (.int .u8 40))) (yh 6)),
  (10006,.fb 6 false),
  (1000014,.bin .eql 3 (yh 2) (LF (.k (.int .i64 0))) (yh 7)),
  (10007,.fb 7 true),
  (1000018,.call ⟨56,[yh 0,yh 1],[],yh 8,[]⟩),
  (1000022,.bin .lss 3 (yh 1) (yh 8) (yh 9)),
  (10009,.fb 9 false),
  (1000032,.op (.min [3,3] 3) [yh 1,yh 8] [] (yh 10)),
  (1000034,.op (.sc 9 true true false) [yh 0,yh 10,yh 8] [] (yh 11)),
  (1000035,.call ⟨57,[yh 11],[],yh 12,[]⟩)]) (k:=⟨33,[yh 0,yh 1,yh 2],[],.t [.g [.k (.int .i64 1),.h 12,.k (.slice none 0 0)],.c (.h 8)],[]⟩) 0 (zg ⟨za,za,za,za,za,za,za,za,za,za,za,za,za,trivial⟩) ⟨e_op1 (zb rfl) (zb rfl) (fun W=>by rw [← e1];exact qf (by kernel_rfl) W),
  e_bin (zb rfl) (zb rfl) (zb rfl) (r_cmp (congrArg some e2)),
  e_fbv h3,
  e_op2 (zb rfl) (zb rfl) (zb rfl) (r_ix (by kernel_rfl) s6 s7),
  e_bin (zb rfl) zd (zb rfl) (r_cmp (congrArg some e8)),
  e_fbv h9,
  e_bin (zb rfl) zd (zb rfl) (r_cmp (congrArg some e10)),
  e_fbv h11,
  zh (zcF s a v12 e12 s13 s14),
  e_bin (zb rfl) (zb rfl) (zb rfl) (r_cmp (congrArg some e15)),
  e_fbv s16,
  e_op2 (zb rfl) (zb rfl) (zb rfl) (fun W=>by rw [← e17];exact zaV W),
  e_op3 (zb rfl) (zb rfl) (zb rfl) (zb rfl) (fun W=>by rw [← e22];exact r_sl (by kernel_rfl) s19 s21 s23 s24 W),
  zh (zbt v22 v25 e25),
  trivial⟩ mixed (by kernel_rfl))
theorem ziX {w0:World} (s:(List UInt8)) (a:Int) (d:Int) (N:Nat) (IH:qa w0 N) (v1:Int) (v2:Bool) (n4:Nat) (b5:UInt8) (v8:Bool) (v10:Bool) (v12:Int) (v13:Int) (o:Int) (v16:Int) (v17:Int) (v18:Int) (v19:Int) (v20:Xp) (v21:Int) (v24:Int) (v25:Int) (v26:Int) (v27:Int) (v28:Xp) (v29:Int) (v32:(List Xp)) (v33:Int) (v34:Int) (v35:Int) (e1:(((s:List UInt8).length:Int))=v1) (e2:(decide (a ≥ v1))=v2) (e8:(((b5.toNat:Int) != (40:Int)))=v8) (e10:((d == (0:Int)))=v10) (e12:(IntKind.i64.wrap (a+(1:Int)))=v12) (e13:(v12+((wordW (s.drop v12.toNat)).length:Int))=v13) (e16:(IntKind.i64.wrap (v13+(1:Int)))=v16) (e17:(((s:List UInt8).length:Int))=v17) (e18:((if v17<v16 then v17 else v16))=v18) (e19:(IntKind.i64.wrap (d - (1:Int)))=v19) (e20:((readR v19.toNat (s.drop v18.toNat)).1)=v20) (e21:((s.length:Int) - ((readR v19.toNat (s.drop v18.toNat)).2.length:Int))=v21) (e24:(IntKind.i64.wrap (v21+(1:Int)))=v24) (e25:(((s:List UInt8).length:Int))=v25) (e26:((if v25<v24 then v25 else v24))=v26) (e27:(IntKind.i64.wrap (d - (1:Int)))=v27) (e28:((readR v27.toNat (s.drop v26.toNat)).1)=v28) (e29:((s.length:Int) - ((readR v27.toNat (s.drop v26.toNat)).2.length:Int))=v29) (e32:(([v20,v28]:List Xp))=v32) (e33:(IntKind.i64.wrap (v29+(1:Int)))=v33) (e34:(((s:List UInt8).length:Int))=v34) (e35:((if v34<v33 then v34 else v33))=v35) (h3:v2=false) (s6:a=(n4:Int)) (s7:(s:List UInt8)[n4]?=some b5) (h9:v8=false) (h11:v10=false) (s14:0≤v12∧v12≤1000000) (s15:(s:List UInt8).length≤1000000) (s22:0≤v18∧v18≤((s:List UInt8).length:Int)∧(s:List UInt8).length≤1000000) (s23:0≤v19∧v19<(N:Int)) (s30:0≤v26∧v26≤((s:List UInt8).length:Int)∧(s:List UInt8).length≤1000000) (s31:0≤v27∧v27<(N:Int)) (L_rr_A:∀R:Frm,R.pm=⟨ntOf Tryz.prog 33,[],[]⟩→zi (KN w0) Tryz.prog (FL [pS s,pI a,pI d,pI v1,pB v2,pV (.int .u8 (b5.toNat:Int)),pB v8,pB v10,pI v12,pI v13,pI o,pI v16,pI v17,pI v18,pI v19,pI v20.op,pI v20.n,pLs cE v20.l,pI v21,pI v24,pI v25,pI v26,pI v27,pI v28.op,pI v28.n,pLs cE v28.l,pI v29,pLs cE v32,pI v33,pI v34,pI v35] []) R zec (lp Tryz.prog 33 0)):Fun (KN w0) Tryz.prog 33 [.o (.c (pS s)),.o (.c (pI a)),.o (.c (pI d))] (.t [.g [pI o,pV (.int .i64 0),pLs cE v32],.c (pI v35)]):=
 zk (zS (F:=FL [pS s,pI a,pI d,pI v1,pB v2,pV (.int .u8 (b5.toNat:Int)),pB v8,pB v10,pI v12,pI v13,pI o,pI v16,pI v17,pI v18,pI v19,pI v20.op,pI v20.n,pLs cE v20.l,pI v21,pI v24,pI v25,pI v26,pI v27,pI v28.op,pI v28.n,pLs cE v28.l,pI v29,pLs cE v32,pI v33,pI v34,pI v35] []) (C:=[(1000004,.op (.len [9] 3) [yh 0] [] (yh 3)),
  (1000005,.bin .geq 3 (yh 1) (yh 3) (yh 4)),
  (10004,.fb 4 false),
  (1000009,.op (.ix 9) [yh 0,yh 1] [] (yh 5)),
  (1000010,.bin .neq 5 (yh 5) (LF (.k (.int .u8 40))) (yh 6)),
  (10006,.fb 6 false),
  (1000014,.bin .eql 3 (yh 2) (LF (.k (.int .i64 0))) (yh 7)),
  (10007,.fb 7 false),
  (1000018,.bin .add 3 (yh 1) (LF (.k (.int .i64 1))) (yh 8)),
  (1000019,.call ⟨56,[yh 0,yh 8],[],yh 9,[]⟩),
  (1001027,.bin .add 3 (yh 9) (LF (.k (.int .i64 1))) (yh 11)),
  (1001029,.op (.len [9] 3) [yh 0] [] (yh 12)),
  (1001030,.op (.min [3,3] 3) [yh 11,yh 12] [] (yh 13)),
  (1001032,.bin .sub 3 (yh 2) (LF (.k (.int .i64 1))) (yh 14)),
  (1001033,.call ⟨33,[yh 0,yh 13,yh 14],[],.t [.g [.h 15,.h 16,.h 17],.c (.h 18)],[]⟩),
  (1001042,.bin .add 3 (yh 18) (LF (.k (.int .i64 1))) (yh 19)),
  (1001044,.op (.len [9] 3) [yh 0] [] (yh 20)),
  (1001045,.op (.min [3,3] 3) [yh 19,yh 20] [] (yh 21)),
  (1001047,.bin .sub 3 (yh 2) (LF (.k (.int .i64 1))) (yh 22)),
  (1001048,.call ⟨33,[yh 0,yh 21,yh 22],[],.t [.g [.h 23,.h 24,.h 25],.c (.h 26)],[]⟩),
  (1001057,.dat 32 2 [.h 15,.h 16,.h 17,.h 23,.h 24,.h 25] 27),
  (1001062,.bin .add 3 (yh 26) (LF (.k (.int .i64 1))) (yh 28)),
  (1001064,.op (.len [9] 3) [yh 0] [] (yh 29)),
  (1001065,.op (.min [3,3] 3) [yh 28,yh 29] [] (yh 30))]) (k:=⟨33,[yh 0,yh 1,yh 2],[],.t [.g [.h 10,.k (.int .i64 0),.h 27],.c (.h 30)],[]⟩) ⟨[zec],[],0⟩ [] 0 (zg ⟨za,za,za,za,za,za,za,za,za,za,za,za,za,za,za,za,za,(ze (zf rfl)),za,za,za,za,za,za,za,(ze (zf rfl)),za,(ze (zf rfl)),za,za,za,trivial⟩) ⟨e_op1 (zb rfl) (zb rfl) (fun W=>by rw [← e1];exact qf (by kernel_rfl) W),
  e_bin (zb rfl) (zb rfl) (zb rfl) (r_cmp (congrArg some e2)),
  e_fbv h3,
  e_op2 (zb rfl) (zb rfl) (zb rfl) (r_ix (by kernel_rfl) s6 s7),
  e_bin (zb rfl) zd (zb rfl) (r_cmp (congrArg some e8)),
  e_fbv h9,
  e_bin (zb rfl) zd (zb rfl) (r_cmp (congrArg some e10)),
  e_fbv h11,
  e_bin (zb rfl) zd (zb rfl) (r_ar (congrArg some e12)),
  zh (zcF s v12 v13 e13 s14 s15),
  e_bin (zb rfl) zd (zb rfl) (r_ar (congrArg some e16)),
  e_op1 (zb rfl) (zb rfl) (fun W=>by rw [← e17];exact qf (by kernel_rfl) W),
  e_op2 (zb rfl) (zb rfl) (zb rfl) (fun W=>by rw [← e18];exact zaV W),
  e_bin (zb rfl) zd (zb rfl) (r_ar (congrArg some e19)),
  zh (IH s v18 v19 v20 v21 e20 e21 s22 s23),
  e_bin (zb rfl) zd (zb rfl) (r_ar (congrArg some e24)),
  e_op1 (zb rfl) (zb rfl) (fun W=>by rw [← e25];exact qf (by kernel_rfl) W),
  e_op2 (zb rfl) (zb rfl) (zb rfl) (fun W=>by rw [← e26];exact zaV W),
  e_bin (zb rfl) zd (zb rfl) (r_ar (congrArg some e27)),
  zh (IH s v26 v27 v28 v29 e28 e29 s30 s31),
  e_dat (c:=cE) (ps:=(pI v20.op::pI v20.n::pLs cE v20.l::pI v28.op::pI v28.n::pLs cE v28.l::[])) (qs:=(pI v20.op::pI v20.n::pLs cE v20.l::pI v28.op::pI v28.n::pLs cE v28.l::[])) (by rw [← e32];rfl) rfl rfl ((flatE _).trans rfl) (pimps (fun _ _ _ h=>h) <| pimps (fun _ _ _ h=>h) <| pimps (fun _ _ _ h=>h) <| pimps (fun _ _ _ h=>h) <| pimps (fun _ _ _ h=>h) <| pimps (fun _ _ _ h=>h) <| qo) rfl,
  e_bin (zb rfl) zd (zb rfl) (r_ar (congrArg some e33)),
  e_op1 (zb rfl) (zb rfl) (fun W=>by rw [← e34];exact qf (by kernel_rfl) W),
  e_op2 (zb rfl) (zb rfl) (zb rfl) (fun W=>by rw [← e35];exact zaV W),
  trivial⟩ mixed trivial (fun R hR p hp s hs=>by
 have hl:zH (qu Tryz.prog 33)=[(9,lp Tryz.prog 33 0)]:=by kernel_rfl
 rw [hl] at hp
 simp only [List.mem_cons,List.not_mem_nil,or_false] at hp
 rcases hp with rfl
 ·have e:s=zec:=(Option.some.inj hs).symm
  subst e;exact L_rr_A R hR) (by kernel_rfl))
theorem zlr {w0:World} {N:Nat} (IH:qa w0 N) (s:List UInt8) (a d:Int) (e:Xp) (r:Int) (he:(readR d.toNat (s.drop a.toNat)).1=e) (hr:(s.length:Int) - ((readR d.toNat (s.drop a.toNat)).2.length:Int)=r) (h0:0≤a∧a≤(s.length:Int)∧s.length≤1000000) (hd:0≤d∧d<((N+1:Nat):Int)) (hN:N≤31):Fun (KN w0) Tryz.prog 33 [.o (.c (pS s)),.o (.c (pI a)),.o (.c (pI d))] (.t [.g [pI e.op,pI e.n,pLs cE e.l],.c (pI r)]):=by
 obtain ⟨v1,e1⟩:∃v,(((s:List UInt8).length:Int))=v:=⟨_,rfl⟩
 obtain ⟨v2,e2⟩:∃v,(decide (a ≥ v1))=v:=⟨_,rfl⟩
 cases h3:v2 with
 | true =>
  obtain ⟨v4,e4⟩:∃v,(a+((wordW (s.drop a.toNat)).length:Int))=v:=⟨_,rfl⟩
  have s5:0≤a∧a≤1000000:=by (have dh3:=of_decide_eq_true (e2.trans h3);have qv1:=e1;have qv4:=zq (s:=s) (a:=a) (by omega) e4;omega)
  have s6:(s:List UInt8).length≤1000000:=by exact h0.2.2
  obtain ⟨v7,e7⟩:∃v,(decide (a<v4))=v:=⟨_,rfl⟩
  have s8:v7=false:=by (have dh3:=of_decide_eq_true (e2.trans h3);have qv1:=e1;have qv4:=zq (s:=s) (a:=a) (by omega) e4;have hw:=znp (s:=s) (k:=a.toNat) (by omega);have hw2:=congrArg List.length hw;rw [← e7,← e4,hw2];exact decide_eq_false (by show ¬ a<a+0;omega))
  obtain ⟨v9,e9⟩:∃v,((if v4<a then v4 else a))=v:=⟨_,rfl⟩
  obtain ⟨n10,s11⟩:∃(n10:Nat),v9=(n10:Int):=by (have dh3:=of_decide_eq_true (e2.trans h3);have qv1:=e1;have qv4:=zq (s:=s) (a:=a) (by omega) e4;exact ⟨v9.toNat,(Int.toNat_of_nonneg (by rw [← e9];split<;>omega)).symm⟩)
  obtain ⟨n12,s13⟩:∃(n12:Nat),v4=(n12:Int):=by (have dh3:=of_decide_eq_true (e2.trans h3);have qv1:=e1;have qv4:=zq (s:=s) (a:=a) (by omega) e4;exact ⟨v4.toNat,(Int.toNat_of_nonneg (by omega)).symm⟩)
  obtain ⟨v14,e14⟩:∃v,(((s:List UInt8).drop n10).take (n12 - n10))=v:=⟨_,rfl⟩
  have s15:n10≤n12:=by (have dh3:=of_decide_eq_true (e2.trans h3);have qv1:=e1;have qv4:=zq (s:=s) (a:=a) (by omega) e4;have hif:v9=a:=(by rw [← e9,if_neg (by omega)]);omega)
  have s16:n12≤(s:List UInt8).length:=by (have dh3:=of_decide_eq_true (e2.trans h3);have qv1:=e1;have qv4:=zq (s:=s) (a:=a) (by omega) e4;have hif:v9=a:=(by rw [← e9,if_neg (by omega)]);omega)
  obtain ⟨v17,e17⟩:∃v,(numR v14)=v:=⟨_,rfl⟩
  refine Fun.imp (ziS s a d N IH v1 v2 v4 v7 v9 n10 n12 v14 v17 e1 e2 e4 e7 e9 e14 e17 h3 s5 s6 s8 s11 s13 s15 s16) (fun _ _ _ h=>h) (fun v W D h=>?_)
  have r0:e=(Xp.mk (1:Int) v17 []):=by
   (have dh3:=of_decide_eq_true (e2.trans h3);have qv1:=e1;have qv4:=zq (s:=s) (a:=a) (by omega) e4;have z:=zcP (s:=s) (a:=a) (d:=d) ⟨h0.1,h0.2.1⟩ e4 (.inl (zfJ (by omega))) (zbE e4 (of_decide_eq_false (e7.trans s8))) e9 s11 s13;first | (rw [← he,z.1,e14,e17];done) | (rw [← hr];exact z.2))
  have r1:r=v4:=by
   (have dh3:=of_decide_eq_true (e2.trans h3);have qv1:=e1;have qv4:=zq (s:=s) (a:=a) (by omega) e4;have z:=zcP (s:=s) (a:=a) (d:=d) ⟨h0.1,h0.2.1⟩ e4 (.inl (zfJ (by omega))) (zbE e4 (of_decide_eq_false (e7.trans s8))) e9 s11 s13;first | (rw [← he,z.1,e14,e17];done) | (rw [← hr];exact z.2))
  rw [r0,r1];exact zfv h
 | false =>
  obtain ⟨n4,b5,s6,s7⟩:∃(n4:Nat) (b5:UInt8),a=(n4:Int)∧(s:List UInt8)[n4]?=some b5:=by (have dh3:=of_decide_eq_false (e2.trans h3);have qv1:=e1;have hlt:a.toNat<s.length:=(by omega);exact ⟨a.toNat,_,(by omega),List.getElem?_eq_getElem hlt⟩)
  obtain ⟨v8,e8⟩:∃v,(((b5.toNat:Int) != (40:Int)))=v:=⟨_,rfl⟩
  cases h9:v8 with
  | true =>
   obtain ⟨v10,e10⟩:∃v,(a+((wordW (s.drop a.toNat)).length:Int))=v:=⟨_,rfl⟩
   have s11:0≤a∧a≤1000000:=by (have dh3:=of_decide_eq_false (e2.trans h3);have dh9:=bne_iff_ne.1 (e8.trans h9);have qv1:=e1;have qv10:=zq (s:=s) (a:=a) (by omega) e10;omega)
   have s12:(s:List UInt8).length≤1000000:=by exact h0.2.2
   obtain ⟨v13,e13⟩:∃v,(decide (a<v10))=v:=⟨_,rfl⟩
   cases h14:v13 with
   | true =>
    obtain ⟨n15,b16,s17,s18⟩:∃(n15:Nat) (b16:UInt8),a=(n15:Int)∧(s:List UInt8)[n15]?=some b16:=by (have dh3:=of_decide_eq_false (e2.trans h3);have dh9:=bne_iff_ne.1 (e8.trans h9);have dh14:=of_decide_eq_true (e13.trans h14);have qv1:=e1;have qv10:=zq (s:=s) (a:=a) (by omega) e10;have hlt:a.toNat<s.length:=(by omega);exact ⟨a.toNat,_,(by omega),List.getElem?_eq_getElem hlt⟩)
    obtain ⟨v19,e19⟩:∃v,(((b16.toNat:Int) == (36:Int)))=v:=⟨_,rfl⟩
    cases h20:v19 with
    | true =>
     obtain ⟨v21,e21⟩:∃v,(IntKind.i64.wrap (a+(1:Int)))=v:=⟨_,rfl⟩
     obtain ⟨n22,s23⟩:∃(n22:Nat),v21=(n22:Int):=by (have dh3:=of_decide_eq_false (e2.trans h3);have dh9:=bne_iff_ne.1 (e8.trans h9);have dh14:=of_decide_eq_true (e13.trans h14);have dh20:=eq_of_beq (e19.trans h20);have qv1:=e1;have qv10:=zq (s:=s) (a:=a) (by omega) e10;have qv21:v21=a+1:=(by rw [← e21,wri (by omega)]);exact ⟨v21.toNat,(Int.toNat_of_nonneg (by omega)).symm⟩)
     obtain ⟨n24,s25⟩:∃(n24:Nat),v10=(n24:Int):=by (have dh3:=of_decide_eq_false (e2.trans h3);have dh9:=bne_iff_ne.1 (e8.trans h9);have dh14:=of_decide_eq_true (e13.trans h14);have dh20:=eq_of_beq (e19.trans h20);have qv1:=e1;have qv10:=zq (s:=s) (a:=a) (by omega) e10;have qv21:v21=a+1:=(by rw [← e21,wri (by omega)]);exact ⟨v10.toNat,(Int.toNat_of_nonneg (by omega)).symm⟩)
     obtain ⟨v26,e26⟩:∃v,(((s:List UInt8).drop n22).take (n24 - n22))=v:=⟨_,rfl⟩
     have s27:n22≤n24:=by (have dh3:=of_decide_eq_false (e2.trans h3);have dh9:=bne_iff_ne.1 (e8.trans h9);have dh14:=of_decide_eq_true (e13.trans h14);have dh20:=eq_of_beq (e19.trans h20);have qv1:=e1;have qv10:=zq (s:=s) (a:=a) (by omega) e10;have qv21:v21=a+1:=(by rw [← e21,wri (by omega)]);omega)
     have s28:n24≤(s:List UInt8).length:=by (have dh3:=of_decide_eq_false (e2.trans h3);have dh9:=bne_iff_ne.1 (e8.trans h9);have dh14:=of_decide_eq_true (e13.trans h14);have dh20:=eq_of_beq (e19.trans h20);have qv1:=e1;have qv10:=zq (s:=s) (a:=a) (by omega) e10;have qv21:v21=a+1:=(by rw [← e21,wri (by omega)]);omega)
     obtain ⟨v29,e29⟩:∃v,(numR v26)=v:=⟨_,rfl⟩
     refine Fun.imp (ziT s a d N IH v1 v2 n4 b5 v8 v10 v13 n15 b16 v19 v21 n22 n24 v26 v29 e1 e2 e8 e10 e13 e19 e21 e26 e29 h3 s6 s7 h9 s11 s12 h14 s17 s18 h20 s23 s25 s27 s28) (fun _ _ _ h=>h) (fun v W D h=>?_)
     have r0:e=(Xp.mk (2:Int) v29 []):=by
      (have dh3:=of_decide_eq_false (e2.trans h3);have dh9:=bne_iff_ne.1 (e8.trans h9);have dh14:=of_decide_eq_true (e13.trans h14);have dh20:=eq_of_beq (e19.trans h20);have qv1:=e1;have qv10:=zq (s:=s) (a:=a) (by omega) e10;have qv21:v21=a+1:=(by rw [← e21,wri (by omega)]);have z:=znh (s:=s) (a:=a) (d:=d) ⟨h0.1,h0.2.1⟩ e10 (.inl (by rw [show a.toNat=n4 by omega,zbd s7,if_neg (fun z=>dh9 (by rw [z];rfl))])) (by omega) s17 s18 dh20 qv21.symm s23 s25;first | (rw [← he,z.1,e26,e29];done) | (rw [← hr];exact z.2))
     have r1:r=v10:=by
      (have dh3:=of_decide_eq_false (e2.trans h3);have dh9:=bne_iff_ne.1 (e8.trans h9);have dh14:=of_decide_eq_true (e13.trans h14);have dh20:=eq_of_beq (e19.trans h20);have qv1:=e1;have qv10:=zq (s:=s) (a:=a) (by omega) e10;have qv21:v21=a+1:=(by rw [← e21,wri (by omega)]);have z:=znh (s:=s) (a:=a) (d:=d) ⟨h0.1,h0.2.1⟩ e10 (.inl (by rw [show a.toNat=n4 by omega,zbd s7,if_neg (fun z=>dh9 (by rw [z];rfl))])) (by omega) s17 s18 dh20 qv21.symm s23 s25;first | (rw [← he,z.1,e26,e29];done) | (rw [← hr];exact z.2))
     rw [r0,r1];exact zfv h
    | false =>
     obtain ⟨v21,e21⟩:∃v,((if v10<a then v10 else a))=v:=⟨_,rfl⟩
     obtain ⟨n22,s23⟩:∃(n22:Nat),v21=(n22:Int):=by (have dh3:=of_decide_eq_false (e2.trans h3);have dh9:=bne_iff_ne.1 (e8.trans h9);have dh14:=of_decide_eq_true (e13.trans h14);have dh20:=ne_of_beq_false (e19.trans h20);have qv1:=e1;have qv10:=zq (s:=s) (a:=a) (by omega) e10;exact ⟨v21.toNat,(Int.toNat_of_nonneg (by rw [← e21];split<;>omega)).symm⟩)
     obtain ⟨n24,s25⟩:∃(n24:Nat),v10=(n24:Int):=by (have dh3:=of_decide_eq_false (e2.trans h3);have dh9:=bne_iff_ne.1 (e8.trans h9);have dh14:=of_decide_eq_true (e13.trans h14);have dh20:=ne_of_beq_false (e19.trans h20);have qv1:=e1;have qv10:=zq (s:=s) (a:=a) (by omega) e10;exact ⟨v10.toNat,(Int.toNat_of_nonneg (by omega)).symm⟩)
     obtain ⟨v26,e26⟩:∃v,(((s:List UInt8).drop n22).take (n24 - n22))=v:=⟨_,rfl⟩
     have s27:n22≤n24:=by (have dh3:=of_decide_eq_false (e2.trans h3);have dh9:=bne_iff_ne.1 (e8.trans h9);have dh14:=of_decide_eq_true (e13.trans h14);have dh20:=ne_of_beq_false (e19.trans h20);have qv1:=e1;have qv10:=zq (s:=s) (a:=a) (by omega) e10;have hif:v21=a:=(by rw [← e21,if_neg (by omega)]);omega)
     have s28:n24≤(s:List UInt8).length:=by (have dh3:=of_decide_eq_false (e2.trans h3);have dh9:=bne_iff_ne.1 (e8.trans h9);have dh14:=of_decide_eq_true (e13.trans h14);have dh20:=ne_of_beq_false (e19.trans h20);have qv1:=e1;have qv10:=zq (s:=s) (a:=a) (by omega) e10;have hif:v21=a:=(by rw [← e21,if_neg (by omega)]);omega)
     obtain ⟨v29,e29⟩:∃v,(numR v26)=v:=⟨_,rfl⟩
     refine Fun.imp (ziU s a d N IH v1 v2 n4 b5 v8 v10 v13 n15 b16 v19 v21 n22 n24 v26 v29 e1 e2 e8 e10 e13 e19 e21 e26 e29 h3 s6 s7 h9 s11 s12 h14 s17 s18 h20 s23 s25 s27 s28) (fun _ _ _ h=>h) (fun v W D h=>?_)
     have r0:e=(Xp.mk (1:Int) v29 []):=by
      (have dh3:=of_decide_eq_false (e2.trans h3);have dh9:=bne_iff_ne.1 (e8.trans h9);have dh14:=of_decide_eq_true (e13.trans h14);have dh20:=ne_of_beq_false (e19.trans h20);have qv1:=e1;have qv10:=zq (s:=s) (a:=a) (by omega) e10;have z:=zcP (s:=s) (a:=a) (d:=d) ⟨h0.1,h0.2.1⟩ e10 (.inl (by rw [show a.toNat=n4 by omega,zbd s7,if_neg (fun z=>dh9 (by rw [z];rfl))])) (znq e10 (by omega) s17 s18 dh20) e21 s23 s25;first | (rw [← he,z.1,e26,e29];done) | (rw [← hr];exact z.2))
     have r1:r=v10:=by
      (have dh3:=of_decide_eq_false (e2.trans h3);have dh9:=bne_iff_ne.1 (e8.trans h9);have dh14:=of_decide_eq_true (e13.trans h14);have dh20:=ne_of_beq_false (e19.trans h20);have qv1:=e1;have qv10:=zq (s:=s) (a:=a) (by omega) e10;have z:=zcP (s:=s) (a:=a) (d:=d) ⟨h0.1,h0.2.1⟩ e10 (.inl (by rw [show a.toNat=n4 by omega,zbd s7,if_neg (fun z=>dh9 (by rw [z];rfl))])) (znq e10 (by omega) s17 s18 dh20) e21 s23 s25;first | (rw [← he,z.1,e26,e29];done) | (rw [← hr];exact z.2))
     rw [r0,r1];exact zfv h
   | false =>
    obtain ⟨v15,e15⟩:∃v,((if v10<a then v10 else a))=v:=⟨_,rfl⟩
    obtain ⟨n16,s17⟩:∃(n16:Nat),v15=(n16:Int):=by (have dh3:=of_decide_eq_false (e2.trans h3);have dh9:=bne_iff_ne.1 (e8.trans h9);have dh14:=of_decide_eq_false (e13.trans h14);have qv1:=e1;have qv10:=zq (s:=s) (a:=a) (by omega) e10;exact ⟨v15.toNat,(Int.toNat_of_nonneg (by rw [← e15];split<;>omega)).symm⟩)
    obtain ⟨n18,s19⟩:∃(n18:Nat),v10=(n18:Int):=by (have dh3:=of_decide_eq_false (e2.trans h3);have dh9:=bne_iff_ne.1 (e8.trans h9);have dh14:=of_decide_eq_false (e13.trans h14);have qv1:=e1;have qv10:=zq (s:=s) (a:=a) (by omega) e10;exact ⟨v10.toNat,(Int.toNat_of_nonneg (by omega)).symm⟩)
    obtain ⟨v20,e20⟩:∃v,(((s:List UInt8).drop n16).take (n18 - n16))=v:=⟨_,rfl⟩
    have s21:n16≤n18:=by (have dh3:=of_decide_eq_false (e2.trans h3);have dh9:=bne_iff_ne.1 (e8.trans h9);have dh14:=of_decide_eq_false (e13.trans h14);have qv1:=e1;have qv10:=zq (s:=s) (a:=a) (by omega) e10;have hif:v15=a:=(by rw [← e15,if_neg (by omega)]);omega)
    have s22:n18≤(s:List UInt8).length:=by (have dh3:=of_decide_eq_false (e2.trans h3);have dh9:=bne_iff_ne.1 (e8.trans h9);have dh14:=of_decide_eq_false (e13.trans h14);have qv1:=e1;have qv10:=zq (s:=s) (a:=a) (by omega) e10;have hif:v15=a:=(by rw [← e15,if_neg (by omega)]);omega)
    obtain ⟨v23,e23⟩:∃v,(numR v20)=v:=⟨_,rfl⟩
    refine Fun.imp (ziV s a d N IH v1 v2 n4 b5 v8 v10 v13 v15 n16 n18 v20 v23 e1 e2 e8 e10 e13 e15 e20 e23 h3 s6 s7 h9 s11 s12 h14 s17 s19 s21 s22) (fun _ _ _ h=>h) (fun v W D h=>?_)
    have r0:e=(Xp.mk (1:Int) v23 []):=by
     (have dh3:=of_decide_eq_false (e2.trans h3);have dh9:=bne_iff_ne.1 (e8.trans h9);have dh14:=of_decide_eq_false (e13.trans h14);have qv1:=e1;have qv10:=zq (s:=s) (a:=a) (by omega) e10;have z:=zcP (s:=s) (a:=a) (d:=d) ⟨h0.1,h0.2.1⟩ e10 (.inl (by rw [show a.toNat=n4 by omega,zbd s7,if_neg (fun z=>dh9 (by rw [z];rfl))])) (zbE e10 (by omega)) e15 s17 s19;first | (rw [← he,z.1,e20,e23];done) | (rw [← hr];exact z.2))
    have r1:r=v10:=by
     (have dh3:=of_decide_eq_false (e2.trans h3);have dh9:=bne_iff_ne.1 (e8.trans h9);have dh14:=of_decide_eq_false (e13.trans h14);have qv1:=e1;have qv10:=zq (s:=s) (a:=a) (by omega) e10;have z:=zcP (s:=s) (a:=a) (d:=d) ⟨h0.1,h0.2.1⟩ e10 (.inl (by rw [show a.toNat=n4 by omega,zbd s7,if_neg (fun z=>dh9 (by rw [z];rfl))])) (zbE e10 (by omega)) e15 s17 s19;first | (rw [← he,z.1,e20,e23];done) | (rw [← hr];exact z.2))
    rw [r0,r1];exact zfv h
  | false =>
   obtain ⟨v10,e10⟩:∃v,((d == (0:Int)))=v:=⟨_,rfl⟩
   cases h11:v10 with
   | true =>
    obtain ⟨v12,e12⟩:∃v,(a+((wordW (s.drop a.toNat)).length:Int))=v:=⟨_,rfl⟩
    have s13:0≤a∧a≤1000000:=by (have dh3:=of_decide_eq_false (e2.trans h3);have dh9:=bne_eq_false_iff_eq.1 (e8.trans h9);have dh11:=eq_of_beq (e10.trans h11);have qv1:=e1;have qv12:=zq (s:=s) (a:=a) (by omega) e12;omega)
    have s14:(s:List UInt8).length≤1000000:=by exact h0.2.2
    obtain ⟨v15,e15⟩:∃v,(decide (a<v12))=v:=⟨_,rfl⟩
    have s16:v15=false:=by (have dh3:=of_decide_eq_false (e2.trans h3);have dh9:=bne_eq_false_iff_eq.1 (e8.trans h9);have dh11:=eq_of_beq (e10.trans h11);have qv1:=e1;have qv12:=zq (s:=s) (a:=a) (by omega) e12;have hw:=ze6 s7 (.inr (.inl dh9));rw [show n4=a.toNat by omega] at hw;rw [← e15];exact decide_eq_false (by omega))
    obtain ⟨v17,e17⟩:∃v,((if v12<a then v12 else a))=v:=⟨_,rfl⟩
    obtain ⟨n18,s19⟩:∃(n18:Nat),v17=(n18:Int):=by (have dh3:=of_decide_eq_false (e2.trans h3);have dh9:=bne_eq_false_iff_eq.1 (e8.trans h9);have dh11:=eq_of_beq (e10.trans h11);have qv1:=e1;have qv12:=zq (s:=s) (a:=a) (by omega) e12;exact ⟨v17.toNat,(Int.toNat_of_nonneg (by rw [← e17];split<;>omega)).symm⟩)
    obtain ⟨n20,s21⟩:∃(n20:Nat),v12=(n20:Int):=by (have dh3:=of_decide_eq_false (e2.trans h3);have dh9:=bne_eq_false_iff_eq.1 (e8.trans h9);have dh11:=eq_of_beq (e10.trans h11);have qv1:=e1;have qv12:=zq (s:=s) (a:=a) (by omega) e12;exact ⟨v12.toNat,(Int.toNat_of_nonneg (by omega)).symm⟩)
    obtain ⟨v22,e22⟩:∃v,(((s:List UInt8).drop n18).take (n20 - n18))=v:=⟨_,rfl⟩
    have s23:n18≤n20:=by (have dh3:=of_decide_eq_false (e2.trans h3);have dh9:=bne_eq_false_iff_eq.1 (e8.trans h9);have dh11:=eq_of_beq (e10.trans h11);have qv1:=e1;have qv12:=zq (s:=s) (a:=a) (by omega) e12;have hif:v17=a:=(by rw [← e17,if_neg (by omega)]);omega)
    have s24:n20≤(s:List UInt8).length:=by (have dh3:=of_decide_eq_false (e2.trans h3);have dh9:=bne_eq_false_iff_eq.1 (e8.trans h9);have dh11:=eq_of_beq (e10.trans h11);have qv1:=e1;have qv12:=zq (s:=s) (a:=a) (by omega) e12;have hif:v17=a:=(by rw [← e17,if_neg (by omega)]);omega)
    obtain ⟨v25,e25⟩:∃v,(numR v22)=v:=⟨_,rfl⟩
    refine Fun.imp (ziW s a d N IH v1 v2 n4 b5 v8 v10 v12 v15 v17 n18 n20 v22 v25 e1 e2 e8 e10 e12 e15 e17 e22 e25 h3 s6 s7 h9 h11 s13 s14 s16 s19 s21 s23 s24) (fun _ _ _ h=>h) (fun v W D h=>?_)
    have r0:e=(Xp.mk (1:Int) v25 []):=by
     (have dh3:=of_decide_eq_false (e2.trans h3);have dh9:=bne_eq_false_iff_eq.1 (e8.trans h9);have dh11:=eq_of_beq (e10.trans h11);have qv1:=e1;have qv12:=zq (s:=s) (a:=a) (by omega) e12;have z:=zcP (s:=s) (a:=a) (d:=d) ⟨h0.1,h0.2.1⟩ e12 (.inr dh11) (zbE e12 (of_decide_eq_false (e15.trans s16))) e17 s19 s21;first | (rw [← he,z.1,e22,e25];done) | (rw [← hr];exact z.2))
    have r1:r=v12:=by
     (have dh3:=of_decide_eq_false (e2.trans h3);have dh9:=bne_eq_false_iff_eq.1 (e8.trans h9);have dh11:=eq_of_beq (e10.trans h11);have qv1:=e1;have qv12:=zq (s:=s) (a:=a) (by omega) e12;have z:=zcP (s:=s) (a:=a) (d:=d) ⟨h0.1,h0.2.1⟩ e12 (.inr dh11) (zbE e12 (of_decide_eq_false (e15.trans s16))) e17 s19 s21;first | (rw [← he,z.1,e22,e25];done) | (rw [← hr];exact z.2))
    rw [r0,r1];exact zfv h
   | false =>
    obtain ⟨v12,e12⟩:∃v,(IntKind.i64.wrap (a+(1:Int)))=v:=⟨_,rfl⟩
    obtain ⟨v13,e13⟩:∃v,(v12+((wordW (s.drop v12.toNat)).length:Int))=v:=⟨_,rfl⟩
    have s14:0≤v12∧v12≤1000000:=by (have dh3:=of_decide_eq_false (e2.trans h3);have dh9:=bne_eq_false_iff_eq.1 (e8.trans h9);have dh11:=ne_of_beq_false (e10.trans h11);have qv1:=e1;have qv12:v12=a+1:=(by rw [← e12,wri (by omega)]);have qv13:=zq (s:=s) (a:=v12) (by omega) e13;omega)
    have s15:(s:List UInt8).length≤1000000:=by exact h0.2.2
    have ha12:0≤a∧a<(s.length:Int)∧s.length≤1000000:=by (have dh3:=of_decide_eq_false (e2.trans h3);have dh9:=bne_eq_false_iff_eq.1 (e8.trans h9);have dh11:=ne_of_beq_false (e10.trans h11);have:=e1;omega)
    have qv12:v12=a+1:=by rw [← e12,wri (by omega)]
    obtain ⟨o,hO_rr_A⟩:∃(o:Int),opN 5 (wordW (s.drop v12.toNat))=o:=⟨_,rfl⟩
    obtain ⟨v16,e16⟩:∃v,(IntKind.i64.wrap (v13+(1:Int)))=v:=⟨_,rfl⟩
    obtain ⟨v17,e17⟩:∃v,(((s:List UInt8).length:Int))=v:=⟨_,rfl⟩
    obtain ⟨v18,e18⟩:∃v,((if v17<v16 then v17 else v16))=v:=⟨_,rfl⟩
    obtain ⟨v19,e19⟩:∃v,(IntKind.i64.wrap (d - (1:Int)))=v:=⟨_,rfl⟩
    obtain ⟨v20,e20⟩:∃v,((readR v19.toNat (s.drop v18.toNat)).1)=v:=⟨_,rfl⟩
    obtain ⟨v21,e21⟩:∃v,((s.length:Int) - ((readR v19.toNat (s.drop v18.toNat)).2.length:Int))=v:=⟨_,rfl⟩
    have s22:0≤v18∧v18≤((s:List UInt8).length:Int)∧(s:List UInt8).length≤1000000:=by (have dh3:=of_decide_eq_false (e2.trans h3);have dh9:=bne_eq_false_iff_eq.1 (e8.trans h9);have dh11:=ne_of_beq_false (e10.trans h11);have qv1:=e1;have qv12:v12=a+1:=(by rw [← e12,wri (by omega)]);have qv13:=zq (s:=s) (a:=v12) (by omega) e13;have qv16:v16=v13+1:=(by rw [← e16,wri (by omega)]);have qv17:=e17;have qv18:=(qr (s:=s) (v:=v16 - 1) (p:=v18) (by omega) (by rw [show v16 - 1+1=v16 by omega,show (s.length:Int)=v17 from e17];exact e18)).2;have qv19:v19=d - 1:=(by rw [← e19,wri (by omega)]);have qv21:=(qI ((ql v19.toNat (s.drop v18.toNat)).trans (List.drop_suffix _ _)) e21).2;omega)
    have s23:0≤v19∧v19<(N:Int):=by (have dh3:=of_decide_eq_false (e2.trans h3);have dh9:=bne_eq_false_iff_eq.1 (e8.trans h9);have dh11:=ne_of_beq_false (e10.trans h11);have qv1:=e1;have qv12:v12=a+1:=(by rw [← e12,wri (by omega)]);have qv13:=zq (s:=s) (a:=v12) (by omega) e13;have qv16:v16=v13+1:=(by rw [← e16,wri (by omega)]);have qv17:=e17;have qv18:=(qr (s:=s) (v:=v16 - 1) (p:=v18) (by omega) (by rw [show v16 - 1+1=v16 by omega,show (s.length:Int)=v17 from e17];exact e18)).2;have qv19:v19=d - 1:=(by rw [← e19,wri (by omega)]);have qv21:=(qI ((ql v19.toNat (s.drop v18.toNat)).trans (List.drop_suffix _ _)) e21).2;omega)
    obtain ⟨v24,e24⟩:∃v,(IntKind.i64.wrap (v21+(1:Int)))=v:=⟨_,rfl⟩
    obtain ⟨v25,e25⟩:∃v,(((s:List UInt8).length:Int))=v:=⟨_,rfl⟩
    obtain ⟨v26,e26⟩:∃v,((if v25<v24 then v25 else v24))=v:=⟨_,rfl⟩
    obtain ⟨v27,e27⟩:∃v,(IntKind.i64.wrap (d - (1:Int)))=v:=⟨_,rfl⟩
    obtain ⟨v28,e28⟩:∃v,((readR v27.toNat (s.drop v26.toNat)).1)=v:=⟨_,rfl⟩
    obtain ⟨v29,e29⟩:∃v,((s.length:Int) - ((readR v27.toNat (s.drop v26.toNat)).2.length:Int))=v:=⟨_,rfl⟩
    have s30:0≤v26∧v26≤((s:List UInt8).length:Int)∧(s:List UInt8).length≤1000000:=by (have dh3:=of_decide_eq_false (e2.trans h3);have dh9:=bne_eq_false_iff_eq.1 (e8.trans h9);have dh11:=ne_of_beq_false (e10.trans h11);have qv1:=e1;have qv12:v12=a+1:=(by rw [← e12,wri (by omega)]);have qv13:=zq (s:=s) (a:=v12) (by omega) e13;have qv16:v16=v13+1:=(by rw [← e16,wri (by omega)]);have qv17:=e17;have qv18:=(qr (s:=s) (v:=v16 - 1) (p:=v18) (by omega) (by rw [show v16 - 1+1=v16 by omega,show (s.length:Int)=v17 from e17];exact e18)).2;have qv19:v19=d - 1:=(by rw [← e19,wri (by omega)]);have qv21:=(qI ((ql v19.toNat (s.drop v18.toNat)).trans (List.drop_suffix _ _)) e21).2;have qv24:v24=v21+1:=(by rw [← e24,wri (by omega)]);have qv25:=e25;have qv26:=(qr (s:=s) (v:=v24 - 1) (p:=v26) (by omega) (by rw [show v24 - 1+1=v24 by omega,show (s.length:Int)=v25 from e25];exact e26)).2;have qv27:v27=d - 1:=(by rw [← e27,wri (by omega)]);have qv29:=(qI ((ql v27.toNat (s.drop v26.toNat)).trans (List.drop_suffix _ _)) e29).2;omega)
    have s31:0≤v27∧v27<(N:Int):=by (have dh3:=of_decide_eq_false (e2.trans h3);have dh9:=bne_eq_false_iff_eq.1 (e8.trans h9);have dh11:=ne_of_beq_false (e10.trans h11);have qv1:=e1;have qv12:v12=a+1:=(by rw [← e12,wri (by omega)]);have qv13:=zq (s:=s) (a:=v12) (by omega) e13;have qv16:v16=v13+1:=(by rw [← e16,wri (by omega)]);have qv17:=e17;have qv18:=(qr (s:=s) (v:=v16 - 1) (p:=v18) (by omega) (by rw [show v16 - 1+1=v16 by omega,show (s.length:Int)=v17 from e17];exact e18)).2;have qv19:v19=d - 1:=(by rw [← e19,wri (by omega)]);have qv21:=(qI ((ql v19.toNat (s.drop v18.toNat)).trans (List.drop_suffix _ _)) e21).2;have qv24:v24=v21+1:=(by rw [← e24,wri (by omega)]);have qv25:=e25;have qv26:=(qr (s:=s) (v:=v24 - 1) (p:=v26) (by omega) (by rw [show v24 - 1+1=v24 by omega,show (s.length:Int)=v25 from e25];exact e26)).2;have qv27:v27=d - 1:=(by rw [← e27,wri (by omega)]);have qv29:=(qI ((ql v27.toNat (s.drop v26.toNat)).trans (List.drop_suffix _ _)) e29).2;omega)
    obtain ⟨v32,e32⟩:∃v,(([v20,v28]:List Xp))=v:=⟨_,rfl⟩
    obtain ⟨v33,e33⟩:∃v,(IntKind.i64.wrap (v29+(1:Int)))=v:=⟨_,rfl⟩
    obtain ⟨v34,e34⟩:∃v,(((s:List UInt8).length:Int))=v:=⟨_,rfl⟩
    obtain ⟨v35,e35⟩:∃v,((if v34<v33 then v34 else v33))=v:=⟨_,rfl⟩
    refine Fun.imp (ziX s a d N IH v1 v2 n4 b5 v8 v10 v12 v13 o v16 v17 v18 v19 v20 v21 v24 v25 v26 v27 v28 v29 v32 v33 v34 v35 e1 e2 e8 e10 e12 e13 e16 e17 e18 e19 e20 e21 e24 e25 e26 e27 e28 e29 e32 e33 e34 e35 h3 s6 s7 h9 h11 s14 s15 s22 s23 s30 s31 (fun R hR=>zn6 s a d N v1 v2 n4 b5 v8 v10 v12 v13 IH  h3 h9 h11 o rfl rfl rfl rfl rfl rfl rfl rfl rfl rfl rfl R hR ha12 qv12 e13 hO_rr_A)) (fun _ _ _ h=>h) (fun v W D h=>?_)
    have r0:e=(Xp.mk o (0:Int) v32):=by
     (have dh3:=of_decide_eq_false (e2.trans h3);have dh9:=bne_eq_false_iff_eq.1 (e8.trans h9);have dh11:=ne_of_beq_false (e10.trans h11);have qv1:=e1;have qv12:v12=a+1:=(by rw [← e12,wri (by omega)]);have qv13:=zq (s:=s) (a:=v12) (by omega) e13;have qv16:v16=v13+1:=(by rw [← e16,wri (by omega)]);have qv17:=e17;have qv18:=(qr (s:=s) (v:=v16 - 1) (p:=v18) (by omega) (by rw [show v16 - 1+1=v16 by omega,show (s.length:Int)=v17 from e17];exact e18)).2;have qv19:v19=d - 1:=(by rw [← e19,wri (by omega)]);have qv21:=(qI ((ql v19.toNat (s.drop v18.toNat)).trans (List.drop_suffix _ _)) e21).2;have qv24:v24=v21+1:=(by rw [← e24,wri (by omega)]);have qv25:=e25;have qv26:=(qr (s:=s) (v:=v24 - 1) (p:=v26) (by omega) (by rw [show v24 - 1+1=v24 by omega,show (s.length:Int)=v25 from e25];exact e26)).2;have qv27:v27=d - 1:=(by rw [← e27,wri (by omega)]);have qv29:=(qI ((ql v27.toNat (s.drop v26.toNat)).trans (List.drop_suffix _ _)) e29).2;have qv33:v33=v29+1:=(by rw [← e33,wri (by omega)]);have qv34:=e34;have qv35:=(qr (s:=s) (v:=v33 - 1) (p:=v35) (by omega) (by rw [show v33 - 1+1=v33 by omega,show (s.length:Int)=v34 from e34];exact e35)).2;have z:=rd_op (s:=s) (a:=a) (d:=d) (x1:=v12) (v1:=v13) (p1:=v18) (r1:=v21) (p2:=v26) (r2:=v29) (p3:=v35) (e1:=v20) (e2:=v28) ⟨h0.1,h0.2.1⟩ s6 s7 dh9 (by omega) qv12.symm e13 (by rw [← qv16,show (s.length:Int)=v17 from e17];exact e18) (by rw [← qv19];exact e20) (by rw [← qv19];exact e21) (by rw [← qv24,show (s.length:Int)=v25 from e25];exact e26) (by rw [← qv27];exact e28) (by rw [← qv27];exact e29) (by rw [← qv33,show (s.length:Int)=v34 from e34];exact e35);first | (rw [← he,z.1,← zj9,hO_rr_A,e32];done) | (rw [← hr];exact z.2))
    have r1:r=v35:=by
     (have dh3:=of_decide_eq_false (e2.trans h3);have dh9:=bne_eq_false_iff_eq.1 (e8.trans h9);have dh11:=ne_of_beq_false (e10.trans h11);have qv1:=e1;have qv12:v12=a+1:=(by rw [← e12,wri (by omega)]);have qv13:=zq (s:=s) (a:=v12) (by omega) e13;have qv16:v16=v13+1:=(by rw [← e16,wri (by omega)]);have qv17:=e17;have qv18:=(qr (s:=s) (v:=v16 - 1) (p:=v18) (by omega) (by rw [show v16 - 1+1=v16 by omega,show (s.length:Int)=v17 from e17];exact e18)).2;have qv19:v19=d - 1:=(by rw [← e19,wri (by omega)]);have qv21:=(qI ((ql v19.toNat (s.drop v18.toNat)).trans (List.drop_suffix _ _)) e21).2;have qv24:v24=v21+1:=(by rw [← e24,wri (by omega)]);have qv25:=e25;have qv26:=(qr (s:=s) (v:=v24 - 1) (p:=v26) (by omega) (by rw [show v24 - 1+1=v24 by omega,show (s.length:Int)=v25 from e25];exact e26)).2;have qv27:v27=d - 1:=(by rw [← e27,wri (by omega)]);have qv29:=(qI ((ql v27.toNat (s.drop v26.toNat)).trans (List.drop_suffix _ _)) e29).2;have qv33:v33=v29+1:=(by rw [← e33,wri (by omega)]);have qv34:=e34;have qv35:=(qr (s:=s) (v:=v33 - 1) (p:=v35) (by omega) (by rw [show v33 - 1+1=v33 by omega,show (s.length:Int)=v34 from e34];exact e35)).2;have z:=rd_op (s:=s) (a:=a) (d:=d) (x1:=v12) (v1:=v13) (p1:=v18) (r1:=v21) (p2:=v26) (r2:=v29) (p3:=v35) (e1:=v20) (e2:=v28) ⟨h0.1,h0.2.1⟩ s6 s7 dh9 (by omega) qv12.symm e13 (by rw [← qv16,show (s.length:Int)=v17 from e17];exact e18) (by rw [← qv19];exact e20) (by rw [← qv19];exact e21) (by rw [← qv24,show (s.length:Int)=v25 from e25];exact e26) (by rw [← qv27];exact e28) (by rw [← qv27];exact e29) (by rw [← qv33,show (s.length:Int)=v34 from e34];exact e35);first | (rw [← he,z.1,← zj9,hO_rr_A,e32];done) | (rw [← hr];exact z.2))
    rw [r0,r1];exact h
theorem zdC {w0:World}:∀N:Nat,N≤31→qa w0 N
 | 0,_=>fun s a d e r _ _ _ hd=>absurd hd.2 (by omega)
 | N+1,hN=>fun s a d e r he hr h0 hd=>zlr (zdC N (by omega)) s a d e r he hr h0 hd (by omega)
theorem zg8 {w0:World} (s:List UInt8) (a d:Int) (e:Xp) (r:Int) (he:(readR d.toNat (s.drop a.toNat)).1=e) (hr:(s.length:Int) - ((readR d.toNat (s.drop a.toNat)).2.length:Int)=r) (h0:0≤a∧a≤(s.length:Int)∧s.length≤1000000) (hd:0≤d∧d≤30):Fun (KN w0) Tryz.prog 33 [.o (.c (pS s)),.o (.c (pI a)),.o (.c (pI d))] (.t [.g [pI e.op,pI e.n,pLs cE e.l],.c (pI r)]):=zdC 31 (by decide) s a d e r he hr h0 (by omega)
end Go.Proofs.YtdkofaajcpcjkaaGreatDoor
namespace Go.Proofs.YtdkofaajcpcjkaaGreatDoor
open Go.RowKit
theorem zni {s:List UInt8} {v:Xp} (hv:(readR 30 s).1=v) (h1:textO v=true) (h2:textX v=s):parE s=v∧parO s=true:=by
 have hc:z6 v 4=0:=eq_of_beq h1
 have e:qq s=some v:=by
  rw [← zd6,zeW,hv,if_pos ⟨hc,by unfold textX at h2;rwa [if_pos hc] at h2⟩]
 unfold parE parO
 rw [e];exact ⟨rfl,rfl⟩
theorem rp_no {s:List UInt8} {v:Xp} (hv:(readR 30 s).1=v) (h:textO v=false∨textX v≠s):parE s=X0∧parO s=false:=by
 have e:qq s=none:=by
  rw [← zd6,zeW,hv,if_neg]
  rintro ⟨hc,hw⟩
  rcases h with h | h
  ·exact beq_eq_false_iff_ne.1 h hc
  ·exact h (by unfold textX;rw [if_pos hc];exact hw)
 unfold parE parO
 rw [e];exact ⟨rfl,rfl⟩
theorem zg2 {w0:World} (s:(List UInt8)) (v1:Xp) (v2:Int) (v5:(List UInt8)) (v6:Bool) (v8:Bool) (e1:((readR (30:Int).toNat (s.drop (0:Int).toNat)).1)=v1) (e2:((s.length:Int) - ((readR (30:Int).toNat (s.drop (0:Int).toNat)).2.length:Int))=v2) (e5:(textX v1)=v5) (e6:(textO v1)=v6) (e8:(!v6)=v8) (s3:0≤(0:Int)∧(0:Int)≤((s:List UInt8).length:Int)∧(s:List UInt8).length≤1000000) (s4:0≤(30:Int)∧(30:Int)≤30) (s7:nodes v1≤1000000) (h9:v8=true):Fun (KN w0) Tryz.prog 9 [.o (.c (pS s))] (.t [.g [pV (.int .i64 0),pV (.int .i64 0),pV (.slice none 0 0)],.c (pV (.bool false))]):=
 zk (zr (F:=FL [pS s,pI v1.op,pI v1.n,pLs cE v1.l,pI v2,pS v5,pB v6,pB v8] []) (C:=[(1000003,.call ⟨33,[yh 0,.o (.c (.k (.int .i64 0))),.o (.c (.k (.int .i64 30)))],[],.t [.g [.h 1,.h 2,.h 3],.c (.h 4)],[]⟩),
  (1000011,.call ⟨7,[.o (.g [.h 1,.h 2,.h 3])],[],.t [.c (.h 5),.c (.h 6)],[]⟩),
  (1000018,.un .not (yh 6) (yh 7)),
  (10007,.fb 7 true)]) (k:=⟨9,[yh 0],[],.t [.g [.k (.int .i64 0),.k (.int .i64 0),.k (.slice none 0 0)],.c (.k (.bool false))],[]⟩) 0 (zg ⟨za,za,za,(ze (zf rfl)),za,za,za,za,trivial⟩) ⟨zh (zg8 s (0:Int) (30:Int) v1 v2 e1 e2 s3 s4),
  zh (zfb v1 v5 v6 e5 e6 s7),
  e_un (zb rfl) (zb rfl) (fun W=>by rw [← e8];exact r_not W),
  e_fbv h9,
  trivial⟩ mixed (by kernel_rfl))
theorem zg3 {w0:World} (s:(List UInt8)) (v1:Xp) (v2:Int) (v5:(List UInt8)) (v6:Bool) (v8:Bool) (v10:Bool) (e1:((readR (30:Int).toNat (s.drop (0:Int).toNat)).1)=v1) (e2:((s.length:Int) - ((readR (30:Int).toNat (s.drop (0:Int).toNat)).2.length:Int))=v2) (e5:(textX v1)=v5) (e6:(textO v1)=v6) (e8:(!v6)=v8) (e10:(!((v5:List UInt8) == s))=v10) (s3:0≤(0:Int)∧(0:Int)≤((s:List UInt8).length:Int)∧(s:List UInt8).length≤1000000) (s4:0≤(30:Int)∧(30:Int)≤30) (s7:nodes v1≤1000000) (h9:v8=false) (h11:v10=true):Fun (KN w0) Tryz.prog 9 [.o (.c (pS s))] (.t [.g [pV (.int .i64 0),pV (.int .i64 0),pV (.slice none 0 0)],.c (pV (.bool false))]):=
 zk (zr (F:=FL [pS s,pI v1.op,pI v1.n,pLs cE v1.l,pI v2,pS v5,pB v6,pB v8,pB v10] []) (C:=[(1000003,.call ⟨33,[yh 0,.o (.c (.k (.int .i64 0))),.o (.c (.k (.int .i64 30)))],[],.t [.g [.h 1,.h 2,.h 3],.c (.h 4)],[]⟩),
  (1000011,.call ⟨7,[.o (.g [.h 1,.h 2,.h 3])],[],.t [.c (.h 5),.c (.h 6)],[]⟩),
  (1000018,.un .not (yh 6) (yh 7)),
  (10007,.fb 7 false),
  (1000022,.bin .neq 9 (yh 5) (yh 0) (yh 8)),
  (10008,.fb 8 true)]) (k:=⟨9,[yh 0],[],.t [.g [.k (.int .i64 0),.k (.int .i64 0),.k (.slice none 0 0)],.c (.k (.bool false))],[]⟩) 0 (zg ⟨za,za,za,(ze (zf rfl)),za,za,za,za,za,trivial⟩) ⟨zh (zg8 s (0:Int) (30:Int) v1 v2 e1 e2 s3 s4),
  zh (zfb v1 v5 v6 e5 e6 s7),
  e_un (zb rfl) (zb rfl) (fun W=>by rw [← e8];exact r_not W),
  e_fbv h9,
  e_bin (zb rfl) (zb rfl) (zb rfl) (fun W X Y=>by rw [← e10];exact r_sne W X Y),
  e_fbv h11,
  trivial⟩ mixed (by kernel_rfl))
theorem zg4 {w0:World} (s:(List UInt8)) (v1:Xp) (v2:Int) (v5:(List UInt8)) (v6:Bool) (v8:Bool) (v10:Bool) (e1:((readR (30:Int).toNat (s.drop (0:Int).toNat)).1)=v1) (e2:((s.length:Int) - ((readR (30:Int).toNat (s.drop (0:Int).toNat)).2.length:Int))=v2) (e5:(textX v1)=v5) (e6:(textO v1)=v6) (e8:(!v6)=v8) (e10:(!((v5:List UInt8) == s))=v10) (s3:0≤(0:Int)∧(0:Int)≤((s:List UInt8).length:Int)∧(s:List UInt8).length≤1000000) (s4:0≤(30:Int)∧(30:Int)≤30) (s7:nodes v1≤1000000) (h9:v8=false) (h11:v10=false):Fun (KN w0) Tryz.prog 9 [.o (.c (pS s))] (.t [.g [pI v1.op,pI v1.n,pLs cE v1.l],.c (pV (.bool true))]):=
 zk (zr (F:=FL [pS s,pI v1.op,pI v1.n,pLs cE v1.l,pI v2,pS v5,pB v6,pB v8,pB v10] []) (C:=[(1000003,.call ⟨33,[yh 0,.o (.c (.k (.int .i64 0))),.o (.c (.k (.int .i64 30)))],[],.t [.g [.h 1,.h 2,.h 3],.c (.h 4)],[]⟩),
  (1000011,.call ⟨7,[.o (.g [.h 1,.h 2,.h 3])],[],.t [.c (.h 5),.c (.h 6)],[]⟩),
  (1000018,.un .not (yh 6) (yh 7)),
  (10007,.fb 7 false),
  (1000022,.bin .neq 9 (yh 5) (yh 0) (yh 8)),
  (10008,.fb 8 false)]) (k:=⟨9,[yh 0],[],.t [.g [.h 1,.h 2,.h 3],.c (.k (.bool true))],[]⟩) 0 (zg ⟨za,za,za,(ze (zf rfl)),za,za,za,za,za,trivial⟩) ⟨zh (zg8 s (0:Int) (30:Int) v1 v2 e1 e2 s3 s4),
  zh (zfb v1 v5 v6 e5 e6 s7),
  e_un (zb rfl) (zb rfl) (fun W=>by rw [← e8];exact r_not W),
  e_fbv h9,
  e_bin (zb rfl) (zb rfl) (zb rfl) (fun W X Y=>by rw [← e10];exact r_sne W X Y),
  e_fbv h11,
  trivial⟩ mixed (by kernel_rfl))
theorem zmU {w0:World} (s:List UInt8) (e:Xp) (b:Bool) (he:parE s=e) (hb:parO s=b) (hl:s.length≤400000):Fun (KN w0) Tryz.prog 9 [.o (.c (pS s))] (.t [.g [pI e.op,pI e.n,pLs cE e.l],.c (pB b)]):=by
 obtain ⟨v1,e1⟩:∃v,((readR (30:Int).toNat (s.drop (0:Int).toNat)).1)=v:=⟨_,rfl⟩
 obtain ⟨v2,e2⟩:∃v,((s.length:Int) - ((readR (30:Int).toNat (s.drop (0:Int).toNat)).2.length:Int))=v:=⟨_,rfl⟩
 have s3:0≤(0:Int)∧(0:Int)≤((s:List UInt8).length:Int)∧(s:List UInt8).length≤1000000:=by omega
 have s4:0≤(30:Int)∧(30:Int)≤30:=by omega
 obtain ⟨v5,e5⟩:∃v,(textX v1)=v:=⟨_,rfl⟩
 obtain ⟨v6,e6⟩:∃v,(textO v1)=v:=⟨_,rfl⟩
 have s7:nodes v1≤1000000:=by (have q:=zgE 30 s;rw [show (readR 30 s).1=v1 from e1] at q;omega)
 obtain ⟨v8,e8⟩:∃v,(!v6)=v:=⟨_,rfl⟩
 cases h9:v8 with
 | true =>
  refine Fun.imp (zg2 s v1 v2 v5 v6 v8 e1 e2 e5 e6 e8 s3 s4 s7 h9) (fun _ _ _ h=>h) (fun v W D h=>?_)
  have r0:e=X0:=by
   (have z:=rp_no (s:=s) (v:=v1) e1 (.inl (by have z:=e8.trans h9;rw [e6];simpa using z));first | (rw [← he];exact z.1) | (rw [← hb];exact z.2))
  have r1:b=false:=by
   (have z:=rp_no (s:=s) (v:=v1) e1 (.inl (by have z:=e8.trans h9;rw [e6];simpa using z));first | (rw [← he];exact z.1) | (rw [← hb];exact z.2))
  rw [r0,r1];exact zdJ h
 | false =>
  obtain ⟨v10,e10⟩:∃v,(!((v5:List UInt8) == s))=v:=⟨_,rfl⟩
  cases h11:v10 with
  | true =>
   refine Fun.imp (zg3 s v1 v2 v5 v6 v8 v10 e1 e2 e5 e6 e8 e10 s3 s4 s7 h9 h11) (fun _ _ _ h=>h) (fun v W D h=>?_)
   have r0:e=X0:=by
    (have z0:¬ v5=s:=(by have z:=e10.trans h11;simpa using z);have z:=rp_no (s:=s) (v:=v1) e1 (.inr (by rw [e5];exact z0));first | (rw [← he];exact z.1) | (rw [← hb];exact z.2))
   have r1:b=false:=by
    (have z0:¬ v5=s:=(by have z:=e10.trans h11;simpa using z);have z:=rp_no (s:=s) (v:=v1) e1 (.inr (by rw [e5];exact z0));first | (rw [← he];exact z.1) | (rw [← hb];exact z.2))
   rw [r0,r1];exact zdJ h
  | false =>
   refine Fun.imp (zg4 s v1 v2 v5 v6 v8 v10 e1 e2 e5 e6 e8 e10 s3 s4 s7 h9 h11) (fun _ _ _ h=>h) (fun v W D h=>?_)
   have r0:e=v1:=by
    (have z0:v5=s:=(by have z:=e10.trans h11;simpa using z);have z:=zni (s:=s) (v:=v1) e1 (by have z:=e8.trans h9;rw [e6];simpa using z) (e5.trans z0);first | (rw [← he];exact z.1) | (rw [← hb];exact z.2))
   have r1:b=true:=by
    (have z0:v5=s:=(by have z:=e10.trans h11;simpa using z);have z:=zni (s:=s) (v:=v1) e1 (by have z:=e8.trans h9;rw [e6];simpa using z) (e5.trans z0);first | (rw [← he];exact z.1) | (rw [← hb];exact z.2))
   rw [r0,r1];exact h
end Go.Proofs.YtdkofaajcpcjkaaGreatDoor
namespace Go.Proofs.YtdkofaajcpcjkaaGreatDoor
open Go.RowKit
theorem zpp {e:Xp} (h:textO e=true):z6 e 4=0∧textX e=zy e:=by
 have h1:z6 e 4=0:=eq_of_beq h
 exact ⟨h1,by unfold textX;rw [if_pos h1]⟩
theorem zl9 {s:List UInt8} (h:parO s=true):textO (parE s)=true∧textX (parE s)=s:=by
 unfold parO at h
 unfold parE
 cases hp:qq s with
 | none=>rw [hp] at h;cases h
 | some e =>
  obtain ⟨h1,h2⟩:=zbz.1 hp
  refine ⟨?_,?_⟩
  ·show textO e=true
   unfold textO;rw [h1];rfl
  ·show textX e=s
   unfold textX;rw [if_pos h1];exact h2
theorem zkf (s:List UInt8):nodes (parE s)≤1000000:=by
 cases h:parO s with
 | true =>
  have h1:=(zpp (zl9 h).1).1
  have:=(qS.1 h1).1
  omega
 | false =>
  unfold parO at h
  unfold parE
  cases hp:qq s with
  | none=>show nodes X0≤_;decide +kernel
  | some e=>rw [hp] at h;cases h
theorem zE (e:Xp):(textX e).length≤1000:=by
 unfold textX
 split
 ·rename_i h
  obtain ⟨h1,h2⟩:=qS.1 h
  have:=qc h2
  omega
 ·simp
def kT (ia:Int) (t:List UInt8):Int:=(IntKind.i64.wrap ia).tmod (IntKind.i64.wrap ((t.length:Int)+1))
def rT (ia il:Int) (t:List UInt8):Int:=if IntKind.i64.wrap (kT ia t+(IntKind.i64.wrap il).tmod 3)<(t.length:Int) then IntKind.i64.wrap (kT ia t+(IntKind.i64.wrap il).tmod 3) else (t.length:Int)
def cutT (t s:List UInt8) (ib:Int) (k r:Nat):List (List UInt8):=[t,t.take k++t.drop r,(t.take k++[bI ib])++t.drop r,t++s,s++t,((([40,43,32]++t)++[32])++s)++[41]]
def stepT (ia ib il:Int) (s:List UInt8) (x:Xp):List (List UInt8):=cutT (textX x) s ib (kT ia (textX x)).toNat (rT ia il (textX x)).toNat
theorem ze4 (ia ib il:Int) (s:List UInt8):∀l:List Xp,(l.flatMap (stepT ia ib il s)).length=6*l.length
 | []=>rfl
 | x::l=>by
  rw [List.flatMap_cons,List.length_append,ze4 ia ib il s l,List.length_cons]
  show 6+6*l.length=_
  omega
theorem zjv {t s:List UInt8} {ib:Int} {k r:Nat} (ht:t.length≤1000) (hs:s.length≤40):∀u∈cutT t s ib k r,u.length≤5000:=by
 intro u hu
 unfold cutT at hu
 simp only [List.mem_cons,List.not_mem_nil,or_false] at hu
 rcases hu with rfl | rfl | rfl | rfl | rfl | rfl
 all_goals (try simp only [List.length_append,List.length_take,List.length_drop,List.length_cons,List.length_nil])
 all_goals omega
theorem zgN {ia ib il:Int} {s:List UInt8} (hs:s.length≤40) (l:List Xp):∀u∈([s]:List (List UInt8))++l.flatMap (stepT ia ib il s),u.length≤5000:=by
 intro u hu
 rcases List.mem_append.1 hu with h | h
 ·obtain rfl:=List.mem_singleton.1 h
  omega
 ·obtain ⟨x,_,hx⟩:=List.mem_flatMap.1 h
  exact zjv (zE x) hs u hx
theorem zI {a b:Int} (ha:0≤a) (hb:0<b):0≤a.tmod b∧a.tmod b<b:=⟨Int.tmod_nonneg _ ha,Int.tmod_lt_of_pos _ hb⟩
structure tx_B_T where
 jb:Int
def zaN:List Atom:=[.sl 1 (yh 7),.sl 2 (yh 8),.sl 3 (yh 9),.sl 4 (yh 13),.sl 11 (.o (.c (.k (.bool true)))),.sl 36 (yh 14),.sl 37 (yh 15),.sl 107 (yh 17),.sl 108 (yh 16),.sl 109 (yh 18),.bx 0 26 [.h 0,.h 1,.h 2,.h 3,.h 4,.h 5,.h 6]]
def zeg:LoopS:=⟨16,[.sl 1 (yh 7),.sl 2 (yh 8),.sl 3 (yh 9),.sl 4 (yh 13),.sl 11 (.o (.c (.k (.bool true)))),.sl 36 (yh 14),.sl 37 (yh 15),.sl 107 (yh 17),.sl 108 (yh 16),.sl 109 (.o (.c (.k (.int .i64 0)))),.bx 0 26 [.h 0,.h 1,.h 2,.h 3,.h 4,.h 5,.h 6]],(.x 2),[.sl 1 (yh 7),.sl 2 (yh 8),.sl 3 (yh 9),.sl 4 (yh 13),.sl 11 (.o (.c (.k (.bool true)))),.sl 36 (yh 14),.sl 37 (yh 15),.sl 107 (yh 17),.sl 108 (yh 16),.bx 0 26 [.h 0,.h 1,.h 2,.h 3,.h 4,.h 5,.h 6]]⟩
theorem zon {w0:World} (hL:LibT w0) (c:(List Int×(Int×Int×Int)×(Int×Int×Int))) (ia:Int) (ib:Int) (il:Int) (s:(List UInt8)) (v1:Int) (v2:Int) (n3:Nat) (v5:(List UInt8)) (v7:(List Xp)) (v9:Int) (o2:(List (List UInt8))) (v10:Int) (jb:Int) (v501:Bool) (n503:Nat) (x504:(List UInt8)) (v507:Xp) (v508:Bool) (v511:Xp) (v512:Bool) (v514:Bool) (v516:Bool) (v518:Bool) (v520:Int) (e501:(decide (jb<v10))=v501) (e507:(parE x504)=v507) (e508:(parO x504)=v508) (e511:(parE x504)=v511) (e512:(parO x504)=v512) (e514:(!(v508 == v512))=v514) (e516:(sameX v507 v511)=v516) (e518:(!v516)=v518) (e520:(IntKind.i64.wrap (jb+(1:Int)))=v520) (h502:v501=true) (s505:jb=(n503:Int)) (s506:o2[n503]?=some x504) (s509:IxAll w0 x504) (s510:(x504:List UInt8).length≤1000000) (s513:(x504:List UInt8).length≤400000) (s515:v514=false) (s517:nodes v507≤1000000) (s519:v518=false) (jb':Int) (q0:(v520)=jb') (R:Frm) (hR:R.pm=⟨ntOf Tryz.prog 3,[],[]⟩):Goes (KN w0) Tryz.prog R (lp Tryz.prog 3 1) (FL [pLs cI c.1,pI c.2.1.1,pI c.2.1.2.1,pI c.2.1.2.2,pI c.2.2.1,pI c.2.2.2.1,pI c.2.2.2.2,pV (.int .u8 ia),pV (.int .u8 ib),pV (.int .u8 il),pS s,pI v1,pI v2,pS v5,pLs cE v7,pI v9,pI v10,pLs cS o2,pI jb] [pG cS ([v5]:List (List UInt8)),pG cS o2]) zaN .n (FL [pLs cI c.1,pI c.2.1.1,pI c.2.1.2.1,pI c.2.1.2.2,pI c.2.2.1,pI c.2.2.2.1,pI c.2.2.2.2,pV (.int .u8 ia),pV (.int .u8 ib),pV (.int .u8 il),pS s,pI v1,pI v2,pS v5,pLs cE v7,pI v9,pI v10,pLs cS o2,pI jb'] [pG cS ([v5]:List (List UInt8)),pG cS o2]) zaN:=
 goes (x:=.n) (y:=.n) (Fb:=FL [pLs cI c.1,pI c.2.1.1,pI c.2.1.2.1,pI c.2.1.2.2,pI c.2.2.1,pI c.2.2.2.1,pI c.2.2.2.2,pV (.int .u8 ia),pV (.int .u8 ib),pV (.int .u8 il),pS s,pI v1,pI v2,pS v5,pLs cE v7,pI v9,pI v10,pLs cS o2,pI jb,pB v501,pP (cS x504),pS x504,pI v507.op,pI v507.n,pLs cE v507.l,pB v508,pI v511.op,pI v511.n,pLs cE v511.l,pB v512,pB v514,pB v516,pB v518,pI v520] [pG cS ([v5]:List (List UInt8)),pG cS o2]) (stb:=zaN) (tl:=[.sl 1 (yh 7),.sl 2 (yh 8),.sl 3 (yh 9),.sl 4 (yh 13),.sl 11 (.o (.c (.k (.bool true)))),.sl 36 (yh 14),.sl 37 (yh 15),.sl 107 (yh 17),.sl 108 (yh 16),.sl 109 (yh 33),.bx 0 26 [.h 0,.h 1,.h 2,.h 3,.h 4,.h 5,.h 6]]) (C:=((1008000,.bin .lss 3 (yh 18) (yh 16) (yh 19)) ::
  (10019,.fb 19 true) ::
  (1008001,.op (.ia 28) [yh 17,yh 18] [] (yh 20)) ::
  (1008002,.op (.ld 9) [yh 20] [] (yh 21)) ::
  (1008005,.call ⟨8,[yh 21],[],.t [.g [.h 22,.h 23,.h 24],.c (.h 25)],[]⟩) ::
  (1008013,.call ⟨9,[yh 21],[],.t [.g [.h 26,.h 27,.h 28],.c (.h 29)],[]⟩) ::
  (1008022,.bin .neq 4 (yh 25) (yh 29) (yh 30)) ::
  (10030,.fb 30 false) ::
  (1008026,.call ⟨10,[.o (.g [.h 22,.h 23,.h 24]),.o (.g [.h 26,.h 27,.h 28])],[],yh 31,[]⟩) ::
  (1008027,.un .not (yh 31) (yh 32)) ::
  (10032,.fb 32 false) ::
  (1008029,.bin .add 3 (yh 18) (LF (.k (.int .i64 1))) (yh 33)) ::
  []:List (Nat×Ent))) (H:=.no) 8000 (zipA.imp ⟨z_c yy,z_c yy,z_c yy,z_c yy,z_c yy,z_c yy,z_c yy,z_c yy,z_c yy,z_c yy,z_b ⟨yy,yy,yy,yy,yy,yy,yy,trivial⟩,trivial⟩) (zg ⟨(ze zt),za,za,za,za,za,za,za,za,za,za,za,za,za,(ze (zf rfl)),za,za,(ze zN),za,za,(zl (zN _)),za,za,za,(ze (zf rfl)),za,za,za,(ze (zf rfl)),za,za,za,za,za,trivial⟩ ⟨(qO zN),(qO zN),trivial⟩) ⟨e_bin (zb rfl) (zb rfl) (zb rfl) (r_cmp (congrArg some e501)),
  e_fbv h502,
  e_iaL (E:=9) (z:=1) (fun _=>rfl) (by kernel_rfl) (by kernel_rfl) (zc rfl) (zb rfl) s505 s506 (zc rfl),
  e_ldP (by kernel_rfl) (zc rfl) (zc rfl),
  zh (zbT hL x504 v507 v508 e507 e508 s509 s510),
  zh (zmU x504 v511 v512 e511 e512 s513),
  e_bin (zb rfl) (zb rfl) (zb rfl) (fun W X Y=>by rw [← e514];exact r_bne (by kernel_rfl) W X Y),
  e_fbv s515,
  zh (zbV v507 v511 v516 e516 s517),
  e_un (zb rfl) (zb rfl) (fun W=>by rw [← e518];exact r_not W),
  e_fbv s519,
  e_bin (zb rfl) zd (zb rfl) (r_ar (congrArg some e520)),
  trivial⟩ mixed hR trivial (fun _ _ _ hs=>by cases hs) (by kernel_rfl:zA (KN w0) Tryz.prog _ .no ⟨ntOf Tryz.prog 3,[],[]⟩ (lp Tryz.prog 3 1) 8000 zaN .n [.sl 1 (yh 7),.sl 2 (yh 8),.sl 3 (yh 9),.sl 4 (yh 13),.sl 11 (.o (.c (.k (.bool true)))),.sl 36 (yh 14),.sl 37 (yh 15),.sl 107 (yh 17),.sl 108 (yh 16),.sl 109 (yh 33),.bx 0 26 [.h 0,.h 1,.h 2,.h 3,.h 4,.h 5,.h 6]]=true) rfl (zipA.imp ⟨z_c yy,z_c yy,z_c yy,z_c yy,z_c yy,z_c yy,z_c yy,z_c yy,z_c yy,z_c (fun β v W h=>(zc rfl β v W).2 (by rw [← q0];exact h)),z_b ⟨yy,yy,yy,yy,yy,yy,yy,trivial⟩,trivial⟩)
theorem zoo {w0:World} (hL:LibT w0) (c:(List Int×(Int×Int×Int)×(Int×Int×Int))) (ia:Int) (ib:Int) (il:Int) (s:(List UInt8)) (v1:Int) (v2:Int) (n3:Nat) (v5:(List UInt8)) (v7:(List Xp)) (v9:Int) (o2:(List (List UInt8))) (v10:Int) (jb:Int) (v501:Bool) (e501:(decide (jb<v10))=v501) (h502:v501=false) (F:Fact) (u0:F.c 0=pLs cI c.1) (u1:F.c 1=pI c.2.1.1) (u2:F.c 2=pI c.2.1.2.1) (u3:F.c 3=pI c.2.1.2.2) (u4:F.c 4=pI c.2.2.1) (u5:F.c 5=pI c.2.2.2.1) (u6:F.c 6=pI c.2.2.2.2) (u7:F.c 7=pV (.int .u8 ia)) (u8:F.c 8=pV (.int .u8 ib)) (u9:F.c 9=pV (.int .u8 il)) (u13:F.c 13=pS v5) (u14:F.c 14=pLs cE v7) (u15:F.c 15=pI v9) (u16:F.c 16=pI v10) (u17:F.c 17=pLs cS o2) (R:Frm) (hR:R.pm=⟨ntOf Tryz.prog 3,[],[]⟩):Goes (KN w0) Tryz.prog R (lp Tryz.prog 3 1) (FL [pLs cI c.1,pI c.2.1.1,pI c.2.1.2.1,pI c.2.1.2.2,pI c.2.2.1,pI c.2.2.2.1,pI c.2.2.2.2,pV (.int .u8 ia),pV (.int .u8 ib),pV (.int .u8 il),pS s,pI v1,pI v2,pS v5,pLs cE v7,pI v9,pI v10,pLs cS o2,pI jb] [pG cS ([v5]:List (List UInt8)),pG cS o2]) zaN (.x 2) F zeg.out:=
 goes (x:=(.x 2)) (y:=(.x 2)) (Fb:=FL [pLs cI c.1,pI c.2.1.1,pI c.2.1.2.1,pI c.2.1.2.2,pI c.2.2.1,pI c.2.2.2.1,pI c.2.2.2.2,pV (.int .u8 ia),pV (.int .u8 ib),pV (.int .u8 il),pS s,pI v1,pI v2,pS v5,pLs cE v7,pI v9,pI v10,pLs cS o2,pI jb,pB v501] [pG cS ([v5]:List (List UInt8)),pG cS o2]) (stb:=zaN) (tl:=[.sl 1 (yh 7),.sl 2 (yh 8),.sl 3 (yh 9),.sl 4 (yh 13),.sl 11 (.o (.c (.k (.bool true)))),.sl 36 (yh 14),.sl 37 (yh 15),.sl 107 (yh 17),.sl 108 (yh 16),.bx 0 26 [.h 0,.h 1,.h 2,.h 3,.h 4,.h 5,.h 6]]) (C:=((1008000,.bin .lss 3 (yh 18) (yh 16) (yh 19)) ::
  (10019,.fb 19 false) ::
  []:List (Nat×Ent))) (H:=.no) 8000 (zipA.imp ⟨z_c yy,z_c yy,z_c yy,z_c yy,z_c yy,z_c yy,z_c yy,z_c yy,z_c yy,z_c yy,z_b ⟨yy,yy,yy,yy,yy,yy,yy,trivial⟩,trivial⟩) (zg ⟨(ze zt),za,za,za,za,za,za,za,za,za,za,za,za,za,(ze (zf rfl)),za,za,(ze zN),za,za,trivial⟩ ⟨(qO zN),(qO zN),trivial⟩) ⟨e_bin (zb rfl) (zb rfl) (zb rfl) (r_cmp (congrArg some e501)),
  e_fbv h502,
  trivial⟩ mixed hR trivial (fun _ _ _ hs=>by cases hs) (by kernel_rfl:zA (KN w0) Tryz.prog _ .no ⟨ntOf Tryz.prog 3,[],[]⟩ (lp Tryz.prog 3 1) 8000 zaN (.x 2) [.sl 1 (yh 7),.sl 2 (yh 8),.sl 3 (yh 9),.sl 4 (yh 13),.sl 11 (.o (.c (.k (.bool true)))),.sl 36 (yh 14),.sl 37 (yh 15),.sl 107 (yh 17),.sl 108 (yh 16),.bx 0 26 [.h 0,.h 1,.h 2,.h 3,.h 4,.h 5,.h 6]]=true) rfl (zipA.imp ⟨z_c (fun β v W h=>(zc u7 β v W).2 h),z_c (fun β v W h=>(zc u8 β v W).2 h),z_c (fun β v W h=>(zc u9 β v W).2 h),z_c (fun β v W h=>(zc u13 β v W).2 h),z_c yy,z_c (fun β v W h=>(zc u14 β v W).2 h),z_c (fun β v W h=>(zc u15 β v W).2 h),z_c (fun β v W h=>(zc u17 β v W).2 h),z_c (fun β v W h=>(zc u16 β v W).2 h),z_b ⟨fun β v W h=>(zc u0 β v W).2 h,fun β v W h=>(zc u1 β v W).2 h,fun β v W h=>(zc u2 β v W).2 h,fun β v W h=>(zc u3 β v W).2 h,fun β v W h=>(zc u4 β v W).2 h,fun β v W h=>(zc u5 β v W).2 h,fun β v W h=>(zc u6 β v W).2 h,trivial⟩,trivial⟩)
def zpo {w0:World} (c:(List Int×(Int×Int×Int)×(Int×Int×Int))) (ia:Int) (ib:Int) (il:Int) (s:(List UInt8)) (v1:Int) (v2:Int) (n3:Nat) (v5:(List UInt8)) (v7:(List Xp)) (v9:Int) (o2:(List (List UInt8))) (v10:Int) (t:tx_B_T):Prop:=(∃(v501:Bool),((decide (t.jb<v10))=v501)∧(v501=false)∧True)
def zpn {w0:World} (c:(List Int×(Int×Int×Int)×(Int×Int×Int))) (ia:Int) (ib:Int) (il:Int) (s:(List UInt8)) (v1:Int) (v2:Int) (n3:Nat) (v5:(List UInt8)) (v7:(List Xp)) (v9:Int) (o2:(List (List UInt8))) (v10:Int) (t t':tx_B_T):Prop:=(∃(v501:Bool),∃(n503:Nat),∃(x504:(List UInt8)),∃(v507:Xp),∃(v508:Bool),∃(v511:Xp),∃(v512:Bool),∃(v514:Bool),∃(v516:Bool),∃(v518:Bool),∃(v520:Int),((decide (t.jb<v10))=v501)∧((parE x504)=v507)∧((parO x504)=v508)∧((parE x504)=v511)∧((parO x504)=v512)∧((!(v508 == v512))=v514)∧((sameX v507 v511)=v516)∧((!v516)=v518)∧((IntKind.i64.wrap (t.jb+(1:Int)))=v520)∧(v501=true)∧(t.jb=(n503:Int))∧(o2[n503]?=some x504)∧(IxAll w0 x504)∧((x504:List UInt8).length≤1000000)∧((x504:List UInt8).length≤400000)∧(v514=false)∧(nodes v507≤1000000)∧(v518=false)∧((v520)=t'.jb)∧True)
theorem zkC {w0:World} (hL:LibT w0) (c:(List Int×(Int×Int×Int)×(Int×Int×Int))) (ia:Int) (ib:Int) (il:Int) (s:(List UInt8)) (v1:Int) (v2:Int) (n3:Nat) (v5:(List UInt8)) (v7:(List Xp)) (v9:Int) (o2:(List (List UInt8))) (v10:Int) {F:Fact} (u0:F.c 0=pLs cI c.1) (u1:F.c 1=pI c.2.1.1) (u2:F.c 2=pI c.2.1.2.1) (u3:F.c 3=pI c.2.1.2.2) (u4:F.c 4=pI c.2.2.1) (u5:F.c 5=pI c.2.2.2.1) (u6:F.c 6=pI c.2.2.2.2) (u7:F.c 7=pV (.int .u8 ia)) (u8:F.c 8=pV (.int .u8 ib)) (u9:F.c 9=pV (.int .u8 il)) (u13:F.c 13=pS v5) (u14:F.c 14=pLs cE v7) (u15:F.c 15=pI v9) (u16:F.c 16=pI v10) (u17:F.c 17=pLs cS o2) (R:Frm) (hR:R.pm=⟨ntOf Tryz.prog 3,[],[]⟩) (J:tx_B_T→Prop) (m:tx_B_T→Nat) (hJ:J { jb:=(0:Int) }) (rounds:∀t,J t→zpo (w0:=w0) c ia ib il s v1 v2 n3 v5 v7 v9 o2 v10 t ∨∃t',zpn (w0:=w0) c ia ib il s v1 v2 n3 v5 v7 v9 o2 v10 t t'∧m t'<m t∧J t'):zi (KN w0) Tryz.prog F R zeg (lp Tryz.prog 3 1):=by
 refine zB (T:=tx_B_T) (fun t=>FL [pLs cI c.1,pI c.2.1.1,pI c.2.1.2.1,pI c.2.1.2.2,pI c.2.2.1,pI c.2.2.2.1,pI c.2.2.2.2,pV (.int .u8 ia),pV (.int .u8 ib),pV (.int .u8 il),pS s,pI v1,pI v2,pS v5,pLs cE v7,pI v9,pI v10,pLs cS o2,pI t.jb] [pG cS ([v5]:List (List UInt8)),pG cS o2]) J m { jb:=(0:Int) } zaN hJ (zipA.imp ⟨z_c (fun β v W h=>(zc u7 β v W).1 h),z_c (fun β v W h=>(zc u8 β v W).1 h),z_c (fun β v W h=>(zc u9 β v W).1 h),z_c (fun β v W h=>(zc u13 β v W).1 h),z_c yy,z_c (fun β v W h=>(zc u14 β v W).1 h),z_c (fun β v W h=>(zc u15 β v W).1 h),z_c (fun β v W h=>(zc u17 β v W).1 h),z_c (fun β v W h=>(zc u16 β v W).1 h),z_c yy,z_b ⟨fun β v W h=>(zc u0 β v W).1 h,fun β v W h=>(zc u1 β v W).1 h,fun β v W h=>(zc u2 β v W).1 h,fun β v W h=>(zc u3 β v W).1 h,fun β v W h=>(zc u4 β v W).1 h,fun β v W h=>(zc u5 β v W).1 h,fun β v W h=>(zc u6 β v W).1 h,trivial⟩,trivial⟩) rfl fun t ht=>?_
 rcases rounds t ht with hz_ | ⟨t',hz_,hm_,hj_⟩
 ·refine .inl ?_
  rcases hz_ with ⟨v501,e501,h502,_⟩
  ·exact zoo hL c ia ib il s v1 v2 n3 v5 v7 v9 o2 v10  t.jb v501 e501 h502  F u0 u1 u2 u3 u4 u5 u6 u7 u8 u9 u13 u14 u15 u16 u17  R hR
 ·refine .inr ⟨t',hm_,hj_,?_⟩
  rcases hz_ with ⟨v501,n503,x504,v507,v508,v511,v512,v514,v516,v518,v520,e501,e507,e508,e511,e512,e514,e516,e518,e520,h502,s505,s506,s509,s510,s513,s515,s517,s519,q0,_⟩
  ·exact zon hL c ia ib il s v1 v2 n3 v5 v7 v9 o2 v10  t.jb v501 n503 x504 v507 v508 v511 v512 v514 v516 v518 v520 e501 e507 e508 e511 e512 e514 e516 e518 e520 h502 s505 s506 s509 s510 s513 s515 s517 s519 t'.jb q0 R hR
theorem zom {w0:World} (hL:LibT w0) (c:(List Int×(Int×Int×Int)×(Int×Int×Int))) (ia:Int) (ib:Int) (il:Int) (s:(List UInt8)) (v1:Int) (v2:Int) (n3:Nat) (v5:(List UInt8)) (v7:(List Xp)) (v9:Int) (o2:(List (List UInt8))) (v10:Int) {F:Fact} (u0:F.c 0=pLs cI c.1) (u1:F.c 1=pI c.2.1.1) (u2:F.c 2=pI c.2.1.2.1) (u3:F.c 3=pI c.2.1.2.2) (u4:F.c 4=pI c.2.2.1) (u5:F.c 5=pI c.2.2.2.1) (u6:F.c 6=pI c.2.2.2.2) (u7:F.c 7=pV (.int .u8 ia)) (u8:F.c 8=pV (.int .u8 ib)) (u9:F.c 9=pV (.int .u8 il)) (u13:F.c 13=pS v5) (u14:F.c 14=pLs cE v7) (u15:F.c 15=pI v9) (u16:F.c 16=pI v10) (u17:F.c 17=pLs cS o2) (R:Frm) (hR:R.pm=⟨ntOf Tryz.prog 3,[],[]⟩) (hn:(o2.length:Int)=v10) (hb:o2.length≤1000000) (hs2:∀u∈o2,u.length≤5000):zi (KN w0) Tryz.prog F R zeg (lp Tryz.prog 3 1):=by
 refine zkC hL c ia ib il s v1 v2 n3 v5 v7 v9 o2 v10   u0 u1 u2 u3 u4 u5 u6 u7 u8 u9 u13 u14 u15 u16 u17 R hR (fun ⟨jb⟩=>0≤jb) (fun ⟨jb⟩=>(v10 - jb).toNat) (by decide) fun t hJ=>?_
 obtain ⟨jb⟩:=t
 dsimp only at hJ
 have hi:=hJ
 obtain ⟨v501,e501⟩:∃v,(decide (jb<v10))=v:=⟨_,rfl⟩
 cases h502:v501 with
 | true =>
  obtain ⟨n503,x504,s505,s506⟩:∃(n503:Nat) (x504:(List UInt8)),jb=(n503:Int)∧o2[n503]?=some x504:=by (have dh502:=of_decide_eq_true (e501.trans h502);have hlt:jb.toNat<o2.length:=(by omega);exact ⟨jb.toNat,_,(Int.toNat_of_nonneg (by omega)).symm,List.getElem?_eq_getElem hlt⟩)
  obtain ⟨v507,e507⟩:∃v,(parE x504)=v:=⟨_,rfl⟩
  obtain ⟨v508,e508⟩:∃v,(parO x504)=v:=⟨_,rfl⟩
  have s509:IxAll w0 x504:=by exact zo0 (Nat.lt_of_le_of_lt (hs2 _ (List.mem_of_getElem? s506)) (by decide))
  have s510:(x504:List UInt8).length≤1000000:=by exact Nat.le_trans (hs2 _ (List.mem_of_getElem? s506)) (by decide)
  obtain ⟨v511,e511⟩:∃v,(parE x504)=v:=⟨_,rfl⟩
  obtain ⟨v512,e512⟩:∃v,(parO x504)=v:=⟨_,rfl⟩
  have s513:(x504:List UInt8).length≤400000:=by exact Nat.le_trans (hs2 _ (List.mem_of_getElem? s506)) (by decide)
  obtain ⟨v514,e514⟩:∃v,(!(v508 == v512))=v:=⟨_,rfl⟩
  have s515:v514=false:=by (rw [← e514,← e508,← e512];simp)
  obtain ⟨v516,e516⟩:∃v,(sameX v507 v511)=v:=⟨_,rfl⟩
  have s517:nodes v507≤1000000:=by (rw [← e507];exact zkf _)
  obtain ⟨v518,e518⟩:∃v,(!v516)=v:=⟨_,rfl⟩
  have s519:v518=false:=by (rw [← e518,← e516,← e507,← e511,(zfF _ _).2 rfl];rfl)
  obtain ⟨v520,e520⟩:∃v,(IntKind.i64.wrap (jb+(1:Int)))=v:=⟨_,rfl⟩
  refine .inr ⟨⟨v520⟩,⟨v501,n503,x504,v507,v508,v511,v512,v514,v516,v518,v520,e501,e507,e508,e511,e512,e514,e516,e518,e520,h502,s505,s506,s509,s510,s513,s515,s517,s519,rfl,trivial⟩,?_,?_⟩
  all_goals (have dh502:=of_decide_eq_true (e501.trans h502);have x3:v520=jb+1:=(by rw [← e520];exact wri (by omega)))
  ·show (v10 - v520).toNat<(v10 - jb).toNat
   omega
  ·show 0≤v520
   omega
 | false =>
  refine .inl (⟨v501,e501,h502,trivial⟩)
  all_goals trivial
structure tx_A_T where
 ja:Int
 o:(List (List UInt8))
def zaM:List Atom:=[.sl 1 (yh 7),.sl 2 (yh 8),.sl 3 (yh 9),.sl 4 (yh 13),.sl 11 (.o (.c (.k (.bool true)))),.sl 12 (.o (.c (.gr 11))),.sl 36 (yh 14),.sl 37 (yh 15),.sl 38 (yh 16),.bx 0 26 [.h 0,.h 1,.h 2,.h 3,.h 4,.h 5,.h 6],.gl 11 9 1 1]
def zef:LoopS:=⟨5,[.sl 1 (yh 7),.sl 2 (yh 8),.sl 3 (yh 9),.sl 4 (yh 13),.sl 11 (.o (.c (.k (.bool true)))),.sl 12 (.o (.c (.gr 11))),.sl 36 (yh 14),.sl 37 (yh 15),.sl 38 (.o (.c (.k (.int .i64 0)))),.bx 0 26 [.h 0,.h 1,.h 2,.h 3,.h 4,.h 5,.h 6],.gl 11 9 1 0],(.x 0),[.sl 1 (yh 7),.sl 2 (yh 8),.sl 3 (yh 9),.sl 4 (yh 13),.sl 11 (.o (.c (.k (.bool true)))),.sl 12 (.o (.c (.gr 11))),.sl 36 (yh 14),.sl 37 (yh 15),.bx 0 26 [.h 0,.h 1,.h 2,.h 3,.h 4,.h 5,.h 6],.gl 11 9 1 1]⟩
theorem zok {w0:World} (hL:LibT w0) (c:(List Int×(Int×Int×Int)×(Int×Int×Int))) (ia:Int) (ib:Int) (il:Int) (s:(List UInt8)) (v1:Int) (v2:Int) (n3:Nat) (v5:(List UInt8)) (v7:(List Xp)) (v9:Int) (ja:Int) (o:(List (List UInt8))) (v501:Bool) (n503:Nat) (x504:Xp) (v507:(List UInt8)) (v508:Bool) (v510:(List UInt8)) (v511:Bool) (v513:Bool) (v515:Bool) (v517:Int) (v518:Int) (v519:Int) (v520:Int) (v522:Int) (v523:Int) (v524:Int) (v525:Int) (v526:Int) (n527:Nat) (v529:(List UInt8)) (n531:Nat) (v533:(List UInt8)) (v535:(List UInt8)) (n537:Nat) (v539:(List UInt8)) (v542:(List UInt8)) (v543:(List UInt8)) (v545:(List UInt8)) (v547:(List UInt8)) (v549:(List UInt8)) (v551:(List UInt8)) (v553:(List UInt8)) (v555:(List UInt8)) (v557:(List UInt8)) (v559:(List (List UInt8))) (v560:(List (List UInt8))) (v562:Int) (e501:(decide (ja<v9))=v501) (e507:(textX x504)=v507) (e508:(textO x504)=v508) (e510:(textX x504)=v510) (e511:(textO x504)=v511) (e513:(!((v507:List UInt8) == v510))=v513) (e515:(!(v508 == v511))=v515) (e517:(IntKind.i64.wrap ia)=v517) (e518:(((v510:List UInt8).length:Int))=v518) (e519:(IntKind.i64.wrap (v518+(1:Int)))=v519) (e520:((v517:Int).tmod v519)=v520) (e522:(((v510:List UInt8).length:Int))=v522) (e523:(IntKind.i64.wrap il)=v523) (e524:((v523:Int).tmod (3:Int))=v524) (e525:(IntKind.i64.wrap (v520+v524))=v525) (e526:((if v525<v522 then v525 else v522))=v526) (e529:((v510:List UInt8).drop n527)=v529) (e533:((v510:List UInt8).take n531)=v533) (e535:(v533++v529)=v535) (e539:((v510:List UInt8).take n537)=v539) (e542:([bI ib])=v542) (e543:(v539++v542)=v543) (e545:(v543++v529)=v545) (e547:(v510++v5)=v547) (e549:(v5++v510)=v549) (e551:([40,43,32]++v510)=v551) (e553:(v551++[32])=v553) (e555:(v553++v5)=v555) (e557:(v555++[41])=v557) (e559:(([v510,v535,v545,v547,v549,v557]:List (List UInt8)))=v559) (e560:(o++v559)=v560) (e562:(IntKind.i64.wrap (ja+(1:Int)))=v562) (h502:v501=true) (s505:ja=(n503:Int)) (s506:v7[n503]?=some x504) (s509:nodes x504≤1000000) (s512:nodes x504≤1000000) (s514:v513=false) (s516:v515=false) (s521:v519≠0) (s528:v526=(n527:Int)) (s530:n527≤(v510:List UInt8).length) (s532:v520=(n531:Int)) (s534:n531≤(v510:List UInt8).length) (s536:(((v533:List UInt8).length+(v529:List UInt8).length:Nat):Int)≤9223372036854775807) (s538:v520=(n537:Int)) (s540:n537≤(v510:List UInt8).length) (s541:0≤ib∧ib<256) (s544:(((v539:List UInt8).length+(v542:List UInt8).length:Nat):Int)≤9223372036854775807) (s546:(((v543:List UInt8).length+(v529:List UInt8).length:Nat):Int)≤9223372036854775807) (s548:(((v510:List UInt8).length+(v5:List UInt8).length:Nat):Int)≤9223372036854775807) (s550:(((v5:List UInt8).length+(v510:List UInt8).length:Nat):Int)≤9223372036854775807) (s552:((([40,43,32]:List UInt8).length+(v510:List UInt8).length:Nat):Int)≤9223372036854775807) (s554:(((v551:List UInt8).length+([32]:List UInt8).length:Nat):Int)≤9223372036854775807) (s556:(((v553:List UInt8).length+(v5:List UInt8).length:Nat):Int)≤9223372036854775807) (s558:(((v555:List UInt8).length+([41]:List UInt8).length:Nat):Int)≤9223372036854775807) (s561:(o.length+v559.length)*1≤1099511627776) (ja':Int) (o':(List (List UInt8))) (q0:(v562)=ja') (q1:(v560)=o') (R:Frm) (hR:R.pm=⟨ntOf Tryz.prog 3,[],[]⟩):Goes (KN w0) Tryz.prog R (lp Tryz.prog 3 0) (FL [pLs cI c.1,pI c.2.1.1,pI c.2.1.2.1,pI c.2.1.2.2,pI c.2.2.1,pI c.2.2.2.1,pI c.2.2.2.2,pV (.int .u8 ia),pV (.int .u8 ib),pV (.int .u8 il),pS s,pI v1,pI v2,pS v5,pLs cE v7,pI v9,pI ja] [pG cS ([v5]:List (List UInt8)),pG cS o]) zaM .n (FL [pLs cI c.1,pI c.2.1.1,pI c.2.1.2.1,pI c.2.1.2.2,pI c.2.2.1,pI c.2.2.2.1,pI c.2.2.2.2,pV (.int .u8 ia),pV (.int .u8 ib),pV (.int .u8 il),pS s,pI v1,pI v2,pS v5,pLs cE v7,pI v9,pI ja'] [pG cS ([v5]:List (List UInt8)),pG cS o']) zaM:=
 goes (x:=.n) (y:=.n) (Fb:=FL [pLs cI c.1,pI c.2.1.1,pI c.2.1.2.1,pI c.2.1.2.2,pI c.2.2.1,pI c.2.2.2.1,pI c.2.2.2.2,pV (.int .u8 ia),pV (.int .u8 ib),pV (.int .u8 il),pS s,pI v1,pI v2,pS v5,pLs cE v7,pI v9,pI ja,pB v501,pP (cE x504),pI x504.op,pI x504.n,pLs cE x504.l,pS v507,pB v508,pS v510,pB v511,pB v513,pB v515,pI v517,pI v518,pI v519,pI v520,pI v522,pI v523,pI v524,pI v525,pI v526,pS v529,pS v533,pS v535,pS v539,pS v542,pS v543,pS v545,pS v547,pS v549,pS v551,pS v553,pS v555,pS v557,pLs cS v559,pI v562] [pG cS ([v5]:List (List UInt8)),pG cS o,pG cS v560]) (stb:=zaM) (tl:=[.sl 1 (yh 7),.sl 2 (yh 8),.sl 3 (yh 9),.sl 4 (yh 13),.sl 11 (.o (.c (.k (.bool true)))),.sl 12 (.o (.c (.gr 11))),.sl 36 (yh 14),.sl 37 (yh 15),.sl 38 (yh 51),.bx 0 26 [.h 0,.h 1,.h 2,.h 3,.h 4,.h 5,.h 6],.gl 11 9 1 2]) (C:=((1005000,.bin .lss 3 (yh 16) (yh 15) (yh 17)) ::
  (10017,.fb 17 true) ::
  (1005001,.op (.ia 29) [yh 14,yh 16] [] (yh 18)) ::
  (1005002,.op (.ld 32) [yh 18] [] (.o (.g [.h 19,.h 20,.h 21]))) ::
  (1005006,.call ⟨6,[.o (.g [.h 19,.h 20,.h 21])],[],.t [.c (.h 22),.c (.h 23)],[]⟩) ::
  (1005013,.call ⟨7,[.o (.g [.h 19,.h 20,.h 21])],[],.t [.c (.h 24),.c (.h 25)],[]⟩) ::
  (1005021,.bin .neq 9 (yh 22) (yh 24) (yh 26)) ::
  (10026,.fb 26 false) ::
  (1005025,.bin .neq 4 (yh 23) (yh 25) (yh 27)) ::
  (10027,.fb 27 false) ::
  (1005028,.op (.cv 5 3) [yh 7] [] (yh 28)) ::
  (1005030,.op (.len [9] 3) [yh 24] [] (yh 29)) ::
  (1005031,.bin .add 3 (yh 29) (LF (.k (.int .i64 1))) (yh 30)) ::
  (1005032,.bin .rem 3 (yh 28) (yh 30) (yh 31)) ::
  (1005036,.op (.len [9] 3) [yh 24] [] (yh 32)) ::
  (1005039,.op (.cv 5 3) [yh 9] [] (yh 33)) ::
  (1005040,.bin .rem 3 (yh 33) (LF (.k (.int .i64 3))) (yh 34)) ::
  (1005041,.bin .add 3 (yh 31) (yh 34) (yh 35)) ::
  (1005042,.op (.min [3,3] 3) [yh 32,yh 35] [] (yh 36)) ::
  (1005043,.op (.sc 9 true false false) [yh 24,yh 36] [] (yh 37)) ::
  (1005049,.op (.sc 9 false true false) [yh 24,yh 31] [] (yh 38)) ::
  (1005051,.bin .add 9 (yh 38) (yh 37) (yh 39)) ::
  (1005054,.op (.sc 9 false true false) [yh 24,yh 31] [] (yh 40)) ::
  (1005057,.op (.cv 35 9) [LF (.s 5056 0 1 1)] [.bx 5056 5 [.h 8]] (yh 41)) ::
  (1005058,.bin .add 9 (yh 40) (yh 41) (yh 42)) ::
  (1005060,.bin .add 9 (yh 42) (yh 37) (yh 43)) ::
  (1005063,.bin .add 9 (yh 24) (yh 13) (yh 44)) ::
  (1005066,.bin .add 9 (yh 13) (yh 24) (yh 45)) ::
  (1005068,.bin .add 9 (LF (.k (.string ⟨#[40,43,32]⟩))) (yh 24) (yh 46)) ::
  (1005069,.bin .add 9 (yh 46) (LF (.k (.string ⟨#[32]⟩))) (yh 47)) ::
  (1005071,.bin .add 9 (yh 47) (yh 13) (yh 48)) ::
  (1005072,.bin .add 9 (yh 48) (LF (.k (.string ⟨#[41]⟩))) (yh 49)) ::
  (1005073,.dat 9 6 [.h 24,.h 39,.h 43,.h 44,.h 45,.h 49] 50) ::
  (1005074,.app 9 1 11 1 2 (yh 50) [] false) ::
  (1005076,.bin .add 3 (yh 16) (LF (.k (.int .i64 1))) (yh 51)) ::
  []:List (Nat×Ent))) (H:=.no) 5000 (zipA.imp ⟨z_c yy,z_c yy,z_c yy,z_c yy,z_c yy,z_c yy,z_c yy,z_c yy,z_c yy,z_b ⟨yy,yy,yy,yy,yy,yy,yy,trivial⟩,z_gl (fun _ _ _ h=>h),trivial⟩) (zg ⟨(ze zt),za,za,za,za,za,za,za,za,za,za,za,za,za,(ze (zf rfl)),za,za,za,(zl ((zf rfl) _)),za,za,(ze (zf rfl)),za,za,za,za,za,za,za,za,za,za,za,za,za,za,za,za,za,za,za,za,za,za,za,za,za,za,za,za,(ze zN),za,trivial⟩ ⟨(qO zN),(qO zN),(qO zN),trivial⟩) ⟨e_bin (zb rfl) (zb rfl) (zb rfl) (r_cmp (congrArg some e501)),
  e_fbv h502,
  e_iaL (E:=32) (z:=3) zj (by kernel_rfl) (by kernel_rfl) (zc rfl) (zb rfl) s505 s506 (zc rfl),
  e_ldG (by kernel_rfl) (by kernel_rfl) (zc rfl) (cE_eq _).symm rfl (zj _),
  zh (zkN hL x504 v507 v508 e507 e508 s509),
  zh (zfb x504 v510 v511 e510 e511 s512),
  e_bin (zb rfl) (zb rfl) (zb rfl) (fun W X Y=>by rw [← e513];exact r_sne W X Y),
  e_fbv s514,
  e_bin (zb rfl) (zb rfl) (zb rfl) (fun W X Y=>by rw [← e515];exact r_bne (by kernel_rfl) W X Y),
  e_fbv s516,
  e_op1 (zb rfl) (zb rfl) (fun W=>by rw [← e517];exact r_cvi (by kernel_rfl) (by kernel_rfl) W),
  e_op1 (zb rfl) (zb rfl) (fun W=>by rw [← e518];exact qf (by kernel_rfl) W),
  e_bin (zb rfl) zd (zb rfl) (r_ar (congrArg some e519)),
  e_bin (zb rfl) (zb rfl) (zb rfl) (r_ar ((zaH s521).trans (congrArg some e520))),
  e_op1 (zb rfl) (zb rfl) (fun W=>by rw [← e522];exact qf (by kernel_rfl) W),
  e_op1 (zb rfl) (zb rfl) (fun W=>by rw [← e523];exact r_cvi (by kernel_rfl) (by kernel_rfl) W),
  e_bin (zb rfl) zd (zb rfl) (r_ar ((zaH (by decide)).trans (congrArg some e524))),
  e_bin (zb rfl) (zb rfl) (zb rfl) (r_ar (congrArg some e525)),
  e_op2 (zb rfl) (zb rfl) (zb rfl) (fun W=>by rw [← e526];exact zaV W),
  e_op2 (zb rfl) (zb rfl) (zb rfl) (fun W=>by rw [← e529];exact zhT (by kernel_rfl) s528 s530 W),
  e_op2 (zb rfl) (zb rfl) (zb rfl) (fun W=>by rw [← e533];exact zfC (by kernel_rfl) s532 s534 W),
  e_bin (zb rfl) (zb rfl) (zb rfl) (fun W X Y=>by rw [← e535];exact r_cat s536 W X Y),
  e_op2 (zb rfl) (zb rfl) (zb rfl) (fun W=>by rw [← e539];exact zfC (by kernel_rfl) s538 s540 W),
  zm7 (E:=5) (ps:=[pV (.int .u8 ib)]) (l:=[bI ib]) (by kernel_rfl) (by kernel_rfl) (by kernel_rfl) rfl (zjl (l:=[ib]) ⟨s541,trivial⟩) rfl rfl (by rw [e542];exact zb rfl),
  e_bin (zb rfl) (zb rfl) (zb rfl) (fun W X Y=>by rw [← e543];exact r_cat s544 W X Y),
  e_bin (zb rfl) (zb rfl) (zb rfl) (fun W X Y=>by rw [← e545];exact r_cat s546 W X Y),
  e_bin (zb rfl) (zb rfl) (zb rfl) (fun W X Y=>by rw [← e547];exact r_cat s548 W X Y),
  e_bin (zb rfl) (zb rfl) (zb rfl) (fun W X Y=>by rw [← e549];exact r_cat s550 W X Y),
  e_bin zd (zb rfl) (zb rfl) (fun W X Y=>by rw [← e551];exact r_cat s552 W X Y),
  e_bin (zb rfl) zd (zb rfl) (fun W X Y=>by rw [← e553];exact r_cat s554 W X Y),
  e_bin (zb rfl) (zb rfl) (zb rfl) (fun W X Y=>by rw [← e555];exact r_cat s556 W X Y),
  e_bin (zb rfl) zd (zb rfl) (fun W X Y=>by rw [← e557];exact r_cat s558 W X Y),
  e_dat (c:=cS) (ps:=(pS v510::pS v535::pS v545::pS v547::pS v549::pS v557::[])) (qs:=(pS v510::pS v535::pS v545::pS v547::pS v549::pS v557::[])) (by rw [← e559];rfl) rfl rfl rfl (pimps (fun _ _ _ h=>h) <| pimps (fun _ _ _ h=>h) <| pimps (fun _ _ _ h=>h) <| pimps (fun _ _ _ h=>h) <| pimps (fun _ _ _ h=>h) <| pimps (fun _ _ _ h=>h) <| qo) rfl,
  zoS (c:=cS) zN (fun _=>rfl) rfl (by rw [e560];rfl) rfl s561,
  e_bin (zb rfl) zd (zb rfl) (r_ar (congrArg some e562)),
  trivial⟩ mixed hR trivial (fun _ _ _ hs=>by cases hs) (by kernel_rfl:zA (KN w0) Tryz.prog _ .no ⟨ntOf Tryz.prog 3,[],[]⟩ (lp Tryz.prog 3 0) 5000 zaM .n [.sl 1 (yh 7),.sl 2 (yh 8),.sl 3 (yh 9),.sl 4 (yh 13),.sl 11 (.o (.c (.k (.bool true)))),.sl 12 (.o (.c (.gr 11))),.sl 36 (yh 14),.sl 37 (yh 15),.sl 38 (yh 51),.bx 0 26 [.h 0,.h 1,.h 2,.h 3,.h 4,.h 5,.h 6],.gl 11 9 1 2]=true) rfl (zipA.imp ⟨z_c yy,z_c yy,z_c yy,z_c yy,z_c yy,z_c yy,z_c yy,z_c yy,z_c (fun β v W h=>(zc rfl β v W).2 (by rw [← q0];exact h)),z_b ⟨yy,yy,yy,yy,yy,yy,yy,trivial⟩,z_gq rfl (by rw [q1];rfl),trivial⟩)
theorem zol {w0:World} (hL:LibT w0) (c:(List Int×(Int×Int×Int)×(Int×Int×Int))) (ia:Int) (ib:Int) (il:Int) (s:(List UInt8)) (v1:Int) (v2:Int) (n3:Nat) (v5:(List UInt8)) (v7:(List Xp)) (v9:Int) (ja:Int) (o:(List (List UInt8))) (v501:Bool) (e501:(decide (ja<v9))=v501) (h502:v501=false) (o2:(List (List UInt8))) (F:Fact) (u0:F.c 0=pLs cI c.1) (u1:F.c 1=pI c.2.1.1) (u2:F.c 2=pI c.2.1.2.1) (u3:F.c 3=pI c.2.1.2.2) (u4:F.c 4=pI c.2.2.1) (u5:F.c 5=pI c.2.2.2.1) (u6:F.c 6=pI c.2.2.2.2) (u7:F.c 7=pV (.int .u8 ia)) (u8:F.c 8=pV (.int .u8 ib)) (u9:F.c 9=pV (.int .u8 il)) (u13:F.c 13=pS v5) (u14:F.c 14=pLs cE v7) (u15:F.c 15=pI v9) (ug0:F.g 0=pG cS ([v5]:List (List UInt8))) (ug1:F.g 1=pG cS o2) (q0:(o)=o2) (R:Frm) (hR:R.pm=⟨ntOf Tryz.prog 3,[],[]⟩):Goes (KN w0) Tryz.prog R (lp Tryz.prog 3 0) (FL [pLs cI c.1,pI c.2.1.1,pI c.2.1.2.1,pI c.2.1.2.2,pI c.2.2.1,pI c.2.2.2.1,pI c.2.2.2.2,pV (.int .u8 ia),pV (.int .u8 ib),pV (.int .u8 il),pS s,pI v1,pI v2,pS v5,pLs cE v7,pI v9,pI ja] [pG cS ([v5]:List (List UInt8)),pG cS o]) zaM (.x 0) F zef.out:=
 goes (x:=(.x 0)) (y:=(.x 0)) (Fb:=FL [pLs cI c.1,pI c.2.1.1,pI c.2.1.2.1,pI c.2.1.2.2,pI c.2.2.1,pI c.2.2.2.1,pI c.2.2.2.2,pV (.int .u8 ia),pV (.int .u8 ib),pV (.int .u8 il),pS s,pI v1,pI v2,pS v5,pLs cE v7,pI v9,pI ja,pB v501] [pG cS ([v5]:List (List UInt8)),pG cS o]) (stb:=zaM) (tl:=[.sl 1 (yh 7),.sl 2 (yh 8),.sl 3 (yh 9),.sl 4 (yh 13),.sl 11 (.o (.c (.k (.bool true)))),.sl 12 (.o (.c (.gr 11))),.sl 36 (yh 14),.sl 37 (yh 15),.bx 0 26 [.h 0,.h 1,.h 2,.h 3,.h 4,.h 5,.h 6],.gl 11 9 1 1]) (C:=((1005000,.bin .lss 3 (yh 16) (yh 15) (yh 17)) ::
  (10017,.fb 17 false) ::
  []:List (Nat×Ent))) (H:=.no) 5000 (zipA.imp ⟨z_c yy,z_c yy,z_c yy,z_c yy,z_c yy,z_c yy,z_c yy,z_c yy,z_c yy,z_b ⟨yy,yy,yy,yy,yy,yy,yy,trivial⟩,z_gl (fun _ _ _ h=>h),trivial⟩) (zg ⟨(ze zt),za,za,za,za,za,za,za,za,za,za,za,za,za,(ze (zf rfl)),za,za,za,trivial⟩ ⟨(qO zN),(qO zN),trivial⟩) ⟨e_bin (zb rfl) (zb rfl) (zb rfl) (r_cmp (congrArg some e501)),
  e_fbv h502,
  trivial⟩ mixed hR trivial (fun _ _ _ hs=>by cases hs) (by kernel_rfl:zA (KN w0) Tryz.prog _ .no ⟨ntOf Tryz.prog 3,[],[]⟩ (lp Tryz.prog 3 0) 5000 zaM (.x 0) [.sl 1 (yh 7),.sl 2 (yh 8),.sl 3 (yh 9),.sl 4 (yh 13),.sl 11 (.o (.c (.k (.bool true)))),.sl 12 (.o (.c (.gr 11))),.sl 36 (yh 14),.sl 37 (yh 15),.bx 0 26 [.h 0,.h 1,.h 2,.h 3,.h 4,.h 5,.h 6],.gl 11 9 1 1]=true) rfl (zipA.imp ⟨z_c (fun β v W h=>(zc u7 β v W).2 h),z_c (fun β v W h=>(zc u8 β v W).2 h),z_c (fun β v W h=>(zc u9 β v W).2 h),z_c (fun β v W h=>(zc u13 β v W).2 h),z_c yy,z_c yy,z_c (fun β v W h=>(zc u14 β v W).2 h),z_c (fun β v W h=>(zc u15 β v W).2 h),z_b ⟨fun β v W h=>(zc u0 β v W).2 h,fun β v W h=>(zc u1 β v W).2 h,fun β v W h=>(zc u2 β v W).2 h,fun β v W h=>(zc u3 β v W).2 h,fun β v W h=>(zc u4 β v W).2 h,fun β v W h=>(zc u5 β v W).2 h,fun β v W h=>(zc u6 β v W).2 h,trivial⟩,z_gq rfl (by rw [q0];exact ug1),trivial⟩)
def zpm (c:(List Int×(Int×Int×Int)×(Int×Int×Int))) (ia:Int) (ib:Int) (il:Int) (s:(List UInt8)) (v1:Int) (v2:Int) (n3:Nat) (v5:(List UInt8)) (v7:(List Xp)) (v9:Int) (t:tx_A_T) (o2:(List (List UInt8))):Prop:=(∃(v501:Bool),((decide (t.ja<v9))=v501)∧(v501=false)∧((t.o)=o2)∧True)
def zpl (c:(List Int×(Int×Int×Int)×(Int×Int×Int))) (ia:Int) (ib:Int) (il:Int) (s:(List UInt8)) (v1:Int) (v2:Int) (n3:Nat) (v5:(List UInt8)) (v7:(List Xp)) (v9:Int) (t t':tx_A_T):Prop:=(∃(v501:Bool),∃(n503:Nat),∃(x504:Xp),∃(v507:(List UInt8)),∃(v508:Bool),∃(v510:(List UInt8)),∃(v511:Bool),∃(v513:Bool),∃(v515:Bool),∃(v517:Int),∃(v518:Int),∃(v519:Int),∃(v520:Int),∃(v522:Int),∃(v523:Int),∃(v524:Int),∃(v525:Int),∃(v526:Int),∃(n527:Nat),∃(v529:(List UInt8)),∃(n531:Nat),∃(v533:(List UInt8)),∃(v535:(List UInt8)),∃(n537:Nat),∃(v539:(List UInt8)),∃(v542:(List UInt8)),∃(v543:(List UInt8)),∃(v545:(List UInt8)),∃(v547:(List UInt8)),∃(v549:(List UInt8)),∃(v551:(List UInt8)),∃(v553:(List UInt8)),∃(v555:(List UInt8)),∃(v557:(List UInt8)),∃(v559:(List (List UInt8))),∃(v560:(List (List UInt8))),∃(v562:Int),((decide (t.ja<v9))=v501)∧((textX x504)=v507)∧((textO x504)=v508)∧((textX x504)=v510)∧((textO x504)=v511)∧((!((v507:List UInt8) == v510))=v513)∧((!(v508 == v511))=v515)∧((IntKind.i64.wrap ia)=v517)∧((((v510:List UInt8).length:Int))=v518)∧((IntKind.i64.wrap (v518+(1:Int)))=v519)∧(((v517:Int).tmod v519)=v520)∧((((v510:List UInt8).length:Int))=v522)∧((IntKind.i64.wrap il)=v523)∧(((v523:Int).tmod (3:Int))=v524)∧((IntKind.i64.wrap (v520+v524))=v525)∧(((if v525<v522 then v525 else v522))=v526)∧(((v510:List UInt8).drop n527)=v529)∧(((v510:List UInt8).take n531)=v533)∧((v533++v529)=v535)∧(((v510:List UInt8).take n537)=v539)∧(([bI ib])=v542)∧((v539++v542)=v543)∧((v543++v529)=v545)∧((v510++v5)=v547)∧((v5++v510)=v549)∧(([40,43,32]++v510)=v551)∧((v551++[32])=v553)∧((v553++v5)=v555)∧((v555++[41])=v557)∧((([v510,v535,v545,v547,v549,v557]:List (List UInt8)))=v559)∧((t.o++v559)=v560)∧((IntKind.i64.wrap (t.ja+(1:Int)))=v562)∧(v501=true)∧(t.ja=(n503:Int))∧(v7[n503]?=some x504)∧(nodes x504≤1000000)∧(nodes x504≤1000000)∧(v513=false)∧(v515=false)∧(v519≠0)∧(v526=(n527:Int))∧(n527≤(v510:List UInt8).length)∧(v520=(n531:Int))∧(n531≤(v510:List UInt8).length)∧((((v533:List UInt8).length+(v529:List UInt8).length:Nat):Int)≤9223372036854775807)∧(v520=(n537:Int))∧(n537≤(v510:List UInt8).length)∧(0≤ib∧ib<256)∧((((v539:List UInt8).length+(v542:List UInt8).length:Nat):Int)≤9223372036854775807)∧((((v543:List UInt8).length+(v529:List UInt8).length:Nat):Int)≤9223372036854775807)∧((((v510:List UInt8).length+(v5:List UInt8).length:Nat):Int)≤9223372036854775807)∧((((v5:List UInt8).length+(v510:List UInt8).length:Nat):Int)≤9223372036854775807)∧(((([40,43,32]:List UInt8).length+(v510:List UInt8).length:Nat):Int)≤9223372036854775807)∧((((v551:List UInt8).length+([32]:List UInt8).length:Nat):Int)≤9223372036854775807)∧((((v553:List UInt8).length+(v5:List UInt8).length:Nat):Int)≤9223372036854775807)∧((((v555:List UInt8).length+([41]:List UInt8).length:Nat):Int)≤9223372036854775807)∧((t.o.length+v559.length)*1≤1099511627776)∧((v562)=t'.ja)∧((v560)=t'.o)∧True)
theorem zkB {w0:World} (hL:LibT w0) (c:(List Int×(Int×Int×Int)×(Int×Int×Int))) (ia:Int) (ib:Int) (il:Int) (s:(List UInt8)) (v1:Int) (v2:Int) (n3:Nat) (v5:(List UInt8)) (v7:(List Xp)) (v9:Int) (o2:(List (List UInt8))) {F:Fact} (u0:F.c 0=pLs cI c.1) (u1:F.c 1=pI c.2.1.1) (u2:F.c 2=pI c.2.1.2.1) (u3:F.c 3=pI c.2.1.2.2) (u4:F.c 4=pI c.2.2.1) (u5:F.c 5=pI c.2.2.2.1) (u6:F.c 6=pI c.2.2.2.2) (u7:F.c 7=pV (.int .u8 ia)) (u8:F.c 8=pV (.int .u8 ib)) (u9:F.c 9=pV (.int .u8 il)) (u13:F.c 13=pS v5) (u14:F.c 14=pLs cE v7) (u15:F.c 15=pI v9) (ug0:F.g 0=pG cS ([v5]:List (List UInt8))) (ug1:F.g 1=pG cS o2) (R:Frm) (hR:R.pm=⟨ntOf Tryz.prog 3,[],[]⟩) (J:tx_A_T→Prop) (m:tx_A_T→Nat) (hJ:J { ja:=(0:Int),o:=([v5]:List (List UInt8)) }) (rounds:∀t,J t→zpm c ia ib il s v1 v2 n3 v5 v7 v9 t o2∨∃t',zpl c ia ib il s v1 v2 n3 v5 v7 v9 t t'∧m t'<m t∧J t'):zi (KN w0) Tryz.prog F R zef (lp Tryz.prog 3 0):=by
 refine zB (T:=tx_A_T) (fun t=>FL [pLs cI c.1,pI c.2.1.1,pI c.2.1.2.1,pI c.2.1.2.2,pI c.2.2.1,pI c.2.2.2.1,pI c.2.2.2.2,pV (.int .u8 ia),pV (.int .u8 ib),pV (.int .u8 il),pS s,pI v1,pI v2,pS v5,pLs cE v7,pI v9,pI t.ja] [pG cS ([v5]:List (List UInt8)),pG cS t.o]) J m { ja:=(0:Int),o:=([v5]:List (List UInt8)) } zaM hJ (zipA.imp ⟨z_c (fun β v W h=>(zc u7 β v W).1 h),z_c (fun β v W h=>(zc u8 β v W).1 h),z_c (fun β v W h=>(zc u9 β v W).1 h),z_c (fun β v W h=>(zc u13 β v W).1 h),z_c yy,z_c yy,z_c (fun β v W h=>(zc u14 β v W).1 h),z_c (fun β v W h=>(zc u15 β v W).1 h),z_c yy,z_b ⟨fun β v W h=>(zc u0 β v W).1 h,fun β v W h=>(zc u1 β v W).1 h,fun β v W h=>(zc u2 β v W).1 h,fun β v W h=>(zc u3 β v W).1 h,fun β v W h=>(zc u4 β v W).1 h,fun β v W h=>(zc u5 β v W).1 h,fun β v W h=>(zc u6 β v W).1 h,trivial⟩,z_gq ug0 rfl,trivial⟩) rfl fun t ht=>?_
 rcases rounds t ht with hz_ | ⟨t',hz_,hm_,hj_⟩
 ·refine .inl ?_
  rcases hz_ with ⟨v501,e501,h502,q0,_⟩
  ·exact zol hL c ia ib il s v1 v2 n3 v5 v7 v9  t.ja t.o v501 e501 h502 o2 F u0 u1 u2 u3 u4 u5 u6 u7 u8 u9 u13 u14 u15 ug0 ug1 q0 R hR
 ·refine .inr ⟨t',hm_,hj_,?_⟩
  rcases hz_ with ⟨v501,n503,x504,v507,v508,v510,v511,v513,v515,v517,v518,v519,v520,v522,v523,v524,v525,v526,n527,v529,n531,v533,v535,n537,v539,v542,v543,v545,v547,v549,v551,v553,v555,v557,v559,v560,v562,e501,e507,e508,e510,e511,e513,e515,e517,e518,e519,e520,e522,e523,e524,e525,e526,e529,e533,e535,e539,e542,e543,e545,e547,e549,e551,e553,e555,e557,e559,e560,e562,h502,s505,s506,s509,s512,s514,s516,s521,s528,s530,s532,s534,s536,s538,s540,s541,s544,s546,s548,s550,s552,s554,s556,s558,s561,q0,q1,_⟩
  ·exact zok hL c ia ib il s v1 v2 n3 v5 v7 v9  t.ja t.o v501 n503 x504 v507 v508 v510 v511 v513 v515 v517 v518 v519 v520 v522 v523 v524 v525 v526 n527 v529 n531 v533 v535 n537 v539 v542 v543 v545 v547 v549 v551 v553 v555 v557 v559 v560 v562 e501 e507 e508 e510 e511 e513 e515 e517 e518 e519 e520 e522 e523 e524 e525 e526 e529 e533 e535 e539 e542 e543 e545 e547 e549 e551 e553 e555 e557 e559 e560 e562 h502 s505 s506 s509 s512 s514 s516 s521 s528 s530 s532 s534 s536 s538 s540 s541 s544 s546 s548 s550 s552 s554 s556 s558 s561 t'.ja t'.o q0 q1 R hR
theorem zoj {w0:World} (hL:LibT w0) (c:(List Int×(Int×Int×Int)×(Int×Int×Int))) (ia:Int) (ib:Int) (il:Int) (s:(List UInt8)) (v1:Int) (v2:Int) (n3:Nat) (v5:(List UInt8)) (v7:(List Xp)) (v9:Int) (o2:(List (List UInt8))) {F:Fact} (u0:F.c 0=pLs cI c.1) (u1:F.c 1=pI c.2.1.1) (u2:F.c 2=pI c.2.1.2.1) (u3:F.c 3=pI c.2.1.2.2) (u4:F.c 4=pI c.2.2.1) (u5:F.c 5=pI c.2.2.2.1) (u6:F.c 6=pI c.2.2.2.2) (u7:F.c 7=pV (.int .u8 ia)) (u8:F.c 8=pV (.int .u8 ib)) (u9:F.c 9=pV (.int .u8 il)) (u13:F.c 13=pS v5) (u14:F.c 14=pLs cE v7) (u15:F.c 15=pI v9) (ug0:F.g 0=pG cS ([v5]:List (List UInt8))) (ug1:F.g 1=pG cS o2) (R:Frm) (hR:R.pm=⟨ntOf Tryz.prog 3,[],[]⟩) (hn:(v7.length:Int)=v9) (hb:v7.length≤1000000) (hall:∀y∈v7,nodes y≤1000) (h5:v5.length≤40) (hia:0≤ia∧ia<256) (hib:0≤ib∧ib<256) (hil:0≤il∧il<256) (hO:([v5]:List (List UInt8))++v7.flatMap (stepT ia ib il v5)=o2) (ho2:o2.length≤1000000):zi (KN w0) Tryz.prog F R zef (lp Tryz.prog 3 0):=by
 refine zkB hL c ia ib il s v1 v2 n3 v5 v7 v9  o2 u0 u1 u2 u3 u4 u5 u6 u7 u8 u9 u13 u14 u15 ug0 ug1 R hR (fun ⟨ja,o⟩=>∃j:Nat,ja=(j:Int)∧j≤v7.length∧o++(v7.drop j).flatMap (stepT ia ib il v5)=o2) (fun ⟨ja,o⟩=>(v9 - ja).toNat) ⟨0,rfl,Nat.zero_le _,hO⟩ fun t hJ=>?_
 obtain ⟨ja,o⟩:=t
 dsimp only at hJ
 obtain ⟨j,hi,hj,ho⟩:=hJ
 have hlo:=congrArg List.length ho
 rw [List.length_append] at hlo
 obtain ⟨v501,e501⟩:∃v,(decide (ja<v9))=v:=⟨_,rfl⟩
 cases h502:v501 with
 | true =>
  obtain ⟨n503,x504,s505,s506⟩:∃(n503:Nat) (x504:Xp),ja=(n503:Int)∧v7[n503]?=some x504:=by (have dh502:=of_decide_eq_true (e501.trans h502);have hlt:j<v7.length:=(by omega);exact ⟨j,_,hi,List.getElem?_eq_getElem hlt⟩)
  obtain ⟨v507,e507⟩:∃v,(textX x504)=v:=⟨_,rfl⟩
  obtain ⟨v508,e508⟩:∃v,(textO x504)=v:=⟨_,rfl⟩
  have s509:nodes x504≤1000000:=by exact Nat.le_trans (hall _ (List.mem_of_getElem? s506)) (by decide)
  obtain ⟨v510,e510⟩:∃v,(textX x504)=v:=⟨_,rfl⟩
  obtain ⟨v511,e511⟩:∃v,(textO x504)=v:=⟨_,rfl⟩
  have s512:nodes x504≤1000000:=by exact Nat.le_trans (hall _ (List.mem_of_getElem? s506)) (by decide)
  obtain ⟨v513,e513⟩:∃v,(!((v507:List UInt8) == v510))=v:=⟨_,rfl⟩
  have s514:v513=false:=by (rw [← e513,← e507,← e510];simp)
  obtain ⟨v515,e515⟩:∃v,(!(v508 == v511))=v:=⟨_,rfl⟩
  have s516:v515=false:=by (rw [← e515,← e508,← e511];simp)
  obtain ⟨v517,e517⟩:∃v,(IntKind.i64.wrap ia)=v:=⟨_,rfl⟩
  obtain ⟨v518,e518⟩:∃v,(((v510:List UInt8).length:Int))=v:=⟨_,rfl⟩
  obtain ⟨v519,e519⟩:∃v,(IntKind.i64.wrap (v518+(1:Int)))=v:=⟨_,rfl⟩
  obtain ⟨v520,e520⟩:∃v,((v517:Int).tmod v519)=v:=⟨_,rfl⟩
  have s521:v519≠0:=by (have dh502:=of_decide_eq_true (e501.trans h502);have lv507:v507.length≤1000:=(by rw [← e507];exact zE _);have lv510:v510.length≤1000:=(by rw [← e510];exact zE _);have qv517:v517=ia:=(by rw [← e517,wri (by omega)]);have qv518:=e518;have qv519:v519=(v518+(1)):=(by rw [← e519,wri (by omega)]);have qv520:=zI (a:=v517) (b:=v519) (by omega) (by omega);rw [e520] at qv520;(try simp only [List.length_cons,List.length_nil]);omega)
  obtain ⟨v522,e522⟩:∃v,(((v510:List UInt8).length:Int))=v:=⟨_,rfl⟩
  obtain ⟨v523,e523⟩:∃v,(IntKind.i64.wrap il)=v:=⟨_,rfl⟩
  obtain ⟨v524,e524⟩:∃v,((v523:Int).tmod (3:Int))=v:=⟨_,rfl⟩
  obtain ⟨v525,e525⟩:∃v,(IntKind.i64.wrap (v520+v524))=v:=⟨_,rfl⟩
  obtain ⟨v526,e526⟩:∃v,((if v525<v522 then v525 else v522))=v:=⟨_,rfl⟩
  obtain ⟨n527,s528⟩:∃(n527:Nat),v526=(n527:Int):=by (have dh502:=of_decide_eq_true (e501.trans h502);have lv507:v507.length≤1000:=(by rw [← e507];exact zE _);have lv510:v510.length≤1000:=(by rw [← e510];exact zE _);have qv517:v517=ia:=(by rw [← e517,wri (by omega)]);have qv518:=e518;have qv519:v519=(v518+(1)):=(by rw [← e519,wri (by omega)]);have qv520:=zI (a:=v517) (b:=v519) (by omega) (by omega);rw [e520] at qv520;have qv522:=e522;have qv523:v523=il:=(by rw [← e523,wri (by omega)]);have qv524:=zI (a:=v523) (b:=(3:Int)) (by omega) (by omega);rw [e524] at qv524;have qv525:v525=(v520+v524):=(by rw [← e525,wri (by omega)]);have qv526:0≤v526∧v526≤v522:=(by rw [← e526];split<;>omega);exact ⟨v526.toNat,(by omega)⟩)
  obtain ⟨v529,e529⟩:∃v,((v510:List UInt8).drop n527)=v:=⟨_,rfl⟩
  have s530:n527≤(v510:List UInt8).length:=by (have dh502:=of_decide_eq_true (e501.trans h502);have lv507:v507.length≤1000:=(by rw [← e507];exact zE _);have lv510:v510.length≤1000:=(by rw [← e510];exact zE _);have qv517:v517=ia:=(by rw [← e517,wri (by omega)]);have qv518:=e518;have qv519:v519=(v518+(1)):=(by rw [← e519,wri (by omega)]);have qv520:=zI (a:=v517) (b:=v519) (by omega) (by omega);rw [e520] at qv520;have qv522:=e522;have qv523:v523=il:=(by rw [← e523,wri (by omega)]);have qv524:=zI (a:=v523) (b:=(3:Int)) (by omega) (by omega);rw [e524] at qv524;have qv525:v525=(v520+v524):=(by rw [← e525,wri (by omega)]);have qv526:0≤v526∧v526≤v522:=(by rw [← e526];split<;>omega);have lv529:=congrArg List.length e529;simp only [List.length_take,List.length_drop,List.length_append,List.length_cons,List.length_nil] at lv529;(try simp only [List.length_cons,List.length_nil]);omega)
  obtain ⟨n531,s532⟩:∃(n531:Nat),v520=(n531:Int):=by (have dh502:=of_decide_eq_true (e501.trans h502);have lv507:v507.length≤1000:=(by rw [← e507];exact zE _);have lv510:v510.length≤1000:=(by rw [← e510];exact zE _);have qv517:v517=ia:=(by rw [← e517,wri (by omega)]);have qv518:=e518;have qv519:v519=(v518+(1)):=(by rw [← e519,wri (by omega)]);have qv520:=zI (a:=v517) (b:=v519) (by omega) (by omega);rw [e520] at qv520;have qv522:=e522;have qv523:v523=il:=(by rw [← e523,wri (by omega)]);have qv524:=zI (a:=v523) (b:=(3:Int)) (by omega) (by omega);rw [e524] at qv524;have qv525:v525=(v520+v524):=(by rw [← e525,wri (by omega)]);have qv526:0≤v526∧v526≤v522:=(by rw [← e526];split<;>omega);have lv529:=congrArg List.length e529;simp only [List.length_take,List.length_drop,List.length_append,List.length_cons,List.length_nil] at lv529;exact ⟨v520.toNat,(by omega)⟩)
  obtain ⟨v533,e533⟩:∃v,((v510:List UInt8).take n531)=v:=⟨_,rfl⟩
  have s534:n531≤(v510:List UInt8).length:=by (have dh502:=of_decide_eq_true (e501.trans h502);have lv507:v507.length≤1000:=(by rw [← e507];exact zE _);have lv510:v510.length≤1000:=(by rw [← e510];exact zE _);have qv517:v517=ia:=(by rw [← e517,wri (by omega)]);have qv518:=e518;have qv519:v519=(v518+(1)):=(by rw [← e519,wri (by omega)]);have qv520:=zI (a:=v517) (b:=v519) (by omega) (by omega);rw [e520] at qv520;have qv522:=e522;have qv523:v523=il:=(by rw [← e523,wri (by omega)]);have qv524:=zI (a:=v523) (b:=(3:Int)) (by omega) (by omega);rw [e524] at qv524;have qv525:v525=(v520+v524):=(by rw [← e525,wri (by omega)]);have qv526:0≤v526∧v526≤v522:=(by rw [← e526];split<;>omega);have lv529:=congrArg List.length e529;simp only [List.length_take,List.length_drop,List.length_append,List.length_cons,List.length_nil] at lv529;have lv533:=congrArg List.length e533;simp only [List.length_take,List.length_drop,List.length_append,List.length_cons,List.length_nil] at lv533;(try simp only [List.length_cons,List.length_nil]);omega)
  obtain ⟨v535,e535⟩:∃v,(v533++v529)=v:=⟨_,rfl⟩
  have s536:(((v533:List UInt8).length+(v529:List UInt8).length:Nat):Int)≤9223372036854775807:=by (have dh502:=of_decide_eq_true (e501.trans h502);have lv507:v507.length≤1000:=(by rw [← e507];exact zE _);have lv510:v510.length≤1000:=(by rw [← e510];exact zE _);have qv517:v517=ia:=(by rw [← e517,wri (by omega)]);have qv518:=e518;have qv519:v519=(v518+(1)):=(by rw [← e519,wri (by omega)]);have qv520:=zI (a:=v517) (b:=v519) (by omega) (by omega);rw [e520] at qv520;have qv522:=e522;have qv523:v523=il:=(by rw [← e523,wri (by omega)]);have qv524:=zI (a:=v523) (b:=(3:Int)) (by omega) (by omega);rw [e524] at qv524;have qv525:v525=(v520+v524):=(by rw [← e525,wri (by omega)]);have qv526:0≤v526∧v526≤v522:=(by rw [← e526];split<;>omega);have lv529:=congrArg List.length e529;simp only [List.length_take,List.length_drop,List.length_append,List.length_cons,List.length_nil] at lv529;have lv533:=congrArg List.length e533;simp only [List.length_take,List.length_drop,List.length_append,List.length_cons,List.length_nil] at lv533;have lv535:=congrArg List.length e535;simp only [List.length_take,List.length_drop,List.length_append,List.length_cons,List.length_nil] at lv535;(try simp only [List.length_cons,List.length_nil]);omega)
  obtain ⟨n537,s538⟩:∃(n537:Nat),v520=(n537:Int):=by (have dh502:=of_decide_eq_true (e501.trans h502);have lv507:v507.length≤1000:=(by rw [← e507];exact zE _);have lv510:v510.length≤1000:=(by rw [← e510];exact zE _);have qv517:v517=ia:=(by rw [← e517,wri (by omega)]);have qv518:=e518;have qv519:v519=(v518+(1)):=(by rw [← e519,wri (by omega)]);have qv520:=zI (a:=v517) (b:=v519) (by omega) (by omega);rw [e520] at qv520;have qv522:=e522;have qv523:v523=il:=(by rw [← e523,wri (by omega)]);have qv524:=zI (a:=v523) (b:=(3:Int)) (by omega) (by omega);rw [e524] at qv524;have qv525:v525=(v520+v524):=(by rw [← e525,wri (by omega)]);have qv526:0≤v526∧v526≤v522:=(by rw [← e526];split<;>omega);have lv529:=congrArg List.length e529;simp only [List.length_take,List.length_drop,List.length_append,List.length_cons,List.length_nil] at lv529;have lv533:=congrArg List.length e533;simp only [List.length_take,List.length_drop,List.length_append,List.length_cons,List.length_nil] at lv533;have lv535:=congrArg List.length e535;simp only [List.length_take,List.length_drop,List.length_append,List.length_cons,List.length_nil] at lv535;exact ⟨v520.toNat,(by omega)⟩)
  obtain ⟨v539,e539⟩:∃v,((v510:List UInt8).take n537)=v:=⟨_,rfl⟩
  have s540:n537≤(v510:List UInt8).length:=by (have dh502:=of_decide_eq_true (e501.trans h502);have lv507:v507.length≤1000:=(by rw [← e507];exact zE _);have lv510:v510.length≤1000:=(by rw [← e510];exact zE _);have qv517:v517=ia:=(by rw [← e517,wri (by omega)]);have qv518:=e518;have qv519:v519=(v518+(1)):=(by rw [← e519,wri (by omega)]);have qv520:=zI (a:=v517) (b:=v519) (by omega) (by omega);rw [e520] at qv520;have qv522:=e522;have qv523:v523=il:=(by rw [← e523,wri (by omega)]);have qv524:=zI (a:=v523) (b:=(3:Int)) (by omega) (by omega);rw [e524] at qv524;have qv525:v525=(v520+v524):=(by rw [← e525,wri (by omega)]);have qv526:0≤v526∧v526≤v522:=(by rw [← e526];split<;>omega);have lv529:=congrArg List.length e529;simp only [List.length_take,List.length_drop,List.length_append,List.length_cons,List.length_nil] at lv529;have lv533:=congrArg List.length e533;simp only [List.length_take,List.length_drop,List.length_append,List.length_cons,List.length_nil] at lv533;have lv535:=congrArg List.length e535;simp only [List.length_take,List.length_drop,List.length_append,List.length_cons,List.length_nil] at lv535;have lv539:=congrArg List.length e539;simp only [List.length_take,List.length_drop,List.length_append,List.length_cons,List.length_nil] at lv539;(try simp only [List.length_cons,List.length_nil]);omega)
  have s541:0≤ib∧ib<256:=by exact hib
  obtain ⟨v542,e542⟩:∃v,([bI ib])=v:=⟨_,rfl⟩
  obtain ⟨v543,e543⟩:∃v,(v539++v542)=v:=⟨_,rfl⟩
  have s544:(((v539:List UInt8).length+(v542:List UInt8).length:Nat):Int)≤9223372036854775807:=by (have dh502:=of_decide_eq_true (e501.trans h502);have lv507:v507.length≤1000:=(by rw [← e507];exact zE _);have lv510:v510.length≤1000:=(by rw [← e510];exact zE _);have qv517:v517=ia:=(by rw [← e517,wri (by omega)]);have qv518:=e518;have qv519:v519=(v518+(1)):=(by rw [← e519,wri (by omega)]);have qv520:=zI (a:=v517) (b:=v519) (by omega) (by omega);rw [e520] at qv520;have qv522:=e522;have qv523:v523=il:=(by rw [← e523,wri (by omega)]);have qv524:=zI (a:=v523) (b:=(3:Int)) (by omega) (by omega);rw [e524] at qv524;have qv525:v525=(v520+v524):=(by rw [← e525,wri (by omega)]);have qv526:0≤v526∧v526≤v522:=(by rw [← e526];split<;>omega);have lv529:=congrArg List.length e529;simp only [List.length_take,List.length_drop,List.length_append,List.length_cons,List.length_nil] at lv529;have lv533:=congrArg List.length e533;simp only [List.length_take,List.length_drop,List.length_append,List.length_cons,List.length_nil] at lv533;have lv535:=congrArg List.length e535;simp only [List.length_take,List.length_drop,List.length_append,List.length_cons,List.length_nil] at lv535;have lv539:=congrArg List.length e539;simp only [List.length_take,List.length_drop,List.length_append,List.length_cons,List.length_nil] at lv539;have lv542:=congrArg List.length e542;simp only [List.length_take,List.length_drop,List.length_append,List.length_cons,List.length_nil] at lv542;have lv543:=congrArg List.length e543;simp only [List.length_take,List.length_drop,List.length_append,List.length_cons,List.length_nil] at lv543;(try simp only [List.length_cons,List.length_nil]);omega)
  obtain ⟨v545,e545⟩:∃v,(v543++v529)=v:=⟨_,rfl⟩
  have s546:(((v543:List UInt8).length+(v529:List UInt8).length:Nat):Int)≤9223372036854775807:=by (have dh502:=of_decide_eq_true (e501.trans h502);have lv507:v507.length≤1000:=(by rw [← e507];exact zE _);have lv510:v510.length≤1000:=(by rw [← e510];exact zE _);have qv517:v517=ia:=(by rw [← e517,wri (by omega)]);have qv518:=e518;have qv519:v519=(v518+(1)):=(by rw [← e519,wri (by omega)]);have qv520:=zI (a:=v517) (b:=v519) (by omega) (by omega);rw [e520] at qv520;have qv522:=e522;have qv523:v523=il:=(by rw [← e523,wri (by omega)]);have qv524:=zI (a:=v523) (b:=(3:Int)) (by omega) (by omega);rw [e524] at qv524;have qv525:v525=(v520+v524):=(by rw [← e525,wri (by omega)]);have qv526:0≤v526∧v526≤v522:=(by rw [← e526];split<;>omega);have lv529:=congrArg List.length e529;simp only [List.length_take,List.length_drop,List.length_append,List.length_cons,List.length_nil] at lv529;have lv533:=congrArg List.length e533;simp only [List.length_take,List.length_drop,List.length_append,List.length_cons,List.length_nil] at lv533;have lv535:=congrArg List.length e535;simp only [List.length_take,List.length_drop,List.length_append,List.length_cons,List.length_nil] at lv535;have lv539:=congrArg List.length e539;simp only [List.length_take,List.length_drop,List.length_append,List.length_cons,List.length_nil] at lv539;have lv542:=congrArg List.length e542;simp only [List.length_take,List.length_drop,List.length_append,List.length_cons,List.length_nil] at lv542;have lv543:=congrArg List.length e543;simp only [List.length_take,List.length_drop,List.length_append,List.length_cons,List.length_nil] at lv543;have lv545:=congrArg List.length e545;simp only [List.length_take,List.length_drop,List.length_append,List.length_cons,List.length_nil] at lv545;(try simp only [List.length_cons,List.length_nil]);omega)
  obtain ⟨v547,e547⟩:∃v,(v510++v5)=v:=⟨_,rfl⟩
  have s548:(((v510:List UInt8).length+(v5:List UInt8).length:Nat):Int)≤9223372036854775807:=by (have dh502:=of_decide_eq_true (e501.trans h502);have lv507:v507.length≤1000:=(by rw [← e507];exact zE _);have lv510:v510.length≤1000:=(by rw [← e510];exact zE _);have qv517:v517=ia:=(by rw [← e517,wri (by omega)]);have qv518:=e518;have qv519:v519=(v518+(1)):=(by rw [← e519,wri (by omega)]);have qv520:=zI (a:=v517) (b:=v519) (by omega) (by omega);rw [e520] at qv520;have qv522:=e522;have qv523:v523=il:=(by rw [← e523,wri (by omega)]);have qv524:=zI (a:=v523) (b:=(3:Int)) (by omega) (by omega);rw [e524] at qv524;have qv525:v525=(v520+v524):=(by rw [← e525,wri (by omega)]);have qv526:0≤v526∧v526≤v522:=(by rw [← e526];split<;>omega);have lv529:=congrArg List.length e529;simp only [List.length_take,List.length_drop,List.length_append,List.length_cons,List.length_nil] at lv529;have lv533:=congrArg List.length e533;simp only [List.length_take,List.length_drop,List.length_append,List.length_cons,List.length_nil] at lv533;have lv535:=congrArg List.length e535;simp only [List.length_take,List.length_drop,List.length_append,List.length_cons,List.length_nil] at lv535;have lv539:=congrArg List.length e539;simp only [List.length_take,List.length_drop,List.length_append,List.length_cons,List.length_nil] at lv539;have lv542:=congrArg List.length e542;simp only [List.length_take,List.length_drop,List.length_append,List.length_cons,List.length_nil] at lv542;have lv543:=congrArg List.length e543;simp only [List.length_take,List.length_drop,List.length_append,List.length_cons,List.length_nil] at lv543;have lv545:=congrArg List.length e545;simp only [List.length_take,List.length_drop,List.length_append,List.length_cons,List.length_nil] at lv545;have lv547:=congrArg List.length e547;simp only [List.length_take,List.length_drop,List.length_append,List.length_cons,List.length_nil] at lv547;(try simp only [List.length_cons,List.length_nil]);omega)
  obtain ⟨v549,e549⟩:∃v,(v5++v510)=v:=⟨_,rfl⟩
  have s550:(((v5:List UInt8).length+(v510:List UInt8).length:Nat):Int)≤9223372036854775807:=by (have dh502:=of_decide_eq_true (e501.trans h502);have lv507:v507.length≤1000:=(by rw [← e507];exact zE _);have lv510:v510.length≤1000:=(by rw [← e510];exact zE _);have qv517:v517=ia:=(by rw [← e517,wri (by omega)]);have qv518:=e518;have qv519:v519=(v518+(1)):=(by rw [← e519,wri (by omega)]);have qv520:=zI (a:=v517) (b:=v519) (by omega) (by omega);rw [e520] at qv520;have qv522:=e522;have qv523:v523=il:=(by rw [← e523,wri (by omega)]);have qv524:=zI (a:=v523) (b:=(3:Int)) (by omega) (by omega);rw [e524] at qv524;have qv525:v525=(v520+v524):=(by rw [← e525,wri (by omega)]);have qv526:0≤v526∧v526≤v522:=(by rw [← e526];split<;>omega);have lv529:=congrArg List.length e529;simp only [List.length_take,List.length_drop,List.length_append,List.length_cons,List.length_nil] at lv529;have lv533:=congrArg List.length e533;simp only [List.length_take,List.length_drop,List.length_append,List.length_cons,List.length_nil] at lv533;have lv535:=congrArg List.length e535;simp only [List.length_take,List.length_drop,List.length_append,List.length_cons,List.length_nil] at lv535;have lv539:=congrArg List.length e539;simp only [List.length_take,List.length_drop,List.length_append,List.length_cons,List.length_nil] at lv539;have lv542:=congrArg List.length e542;simp only [List.length_take,List.length_drop,List.length_append,List.length_cons,List.length_nil] at lv542;have lv543:=congrArg List.length e543;simp only [List.length_take,List.length_drop,List.length_append,List.length_cons,List.length_nil] at lv543;have lv545:=congrArg List.length e545;simp only [List.length_take,List.length_drop,List.length_append,List.length_cons,List.length_nil] at lv545;have lv547:=congrArg List.length e547;simp only [List.length_take,List.length_drop,List.length_append,List.length_cons,List.length_nil] at lv547;have lv549:=congrArg List.length e549;simp only [List.length_take,List.length_drop,List.length_append,List.length_cons,List.length_nil] at lv549;(try simp only [List.length_cons,List.length_nil]);omega)
  obtain ⟨v551,e551⟩:∃v,([40,43,32]++v510)=v:=⟨_,rfl⟩
  have s552:((([40,43,32]:List UInt8).length+(v510:List UInt8).length:Nat):Int)≤9223372036854775807:=by (have dh502:=of_decide_eq_true (e501.trans h502);have lv507:v507.length≤1000:=(by rw [← e507];exact zE _);have lv510:v510.length≤1000:=(by rw [← e510];exact zE _);have qv517:v517=ia:=(by rw [← e517,wri (by omega)]);have qv518:=e518;have qv519:v519=(v518+(1)):=(by rw [← e519,wri (by omega)]);have qv520:=zI (a:=v517) (b:=v519) (by omega) (by omega);rw [e520] at qv520;have qv522:=e522;have qv523:v523=il:=(by rw [← e523,wri (by omega)]);have qv524:=zI (a:=v523) (b:=(3:Int)) (by omega) (by omega);rw [e524] at qv524;have qv525:v525=(v520+v524):=(by rw [← e525,wri (by omega)]);have qv526:0≤v526∧v526≤v522:=(by rw [← e526];split<;>omega);have lv529:=congrArg List.length e529;simp only [List.length_take,List.length_drop,List.length_append,List.length_cons,List.length_nil] at lv529;have lv533:=congrArg List.length e533;simp only [List.length_take,List.length_drop,List.length_append,List.length_cons,List.length_nil] at lv533;have lv535:=congrArg List.length e535;simp only [List.length_take,List.length_drop,List.length_append,List.length_cons,List.length_nil] at lv535;have lv539:=congrArg List.length e539;simp only [List.length_take,List.length_drop,List.length_append,List.length_cons,List.length_nil] at lv539;have lv542:=congrArg List.length e542;simp only [List.length_take,List.length_drop,List.length_append,List.length_cons,List.length_nil] at lv542;have lv543:=congrArg List.length e543;simp only [List.length_take,List.length_drop,List.length_append,List.length_cons,List.length_nil] at lv543;have lv545:=congrArg List.length e545;simp only [List.length_take,List.length_drop,List.length_append,List.length_cons,List.length_nil] at lv545;have lv547:=congrArg List.length e547;simp only [List.length_take,List.length_drop,List.length_append,List.length_cons,List.length_nil] at lv547;have lv549:=congrArg List.length e549;simp only [List.length_take,List.length_drop,List.length_append,List.length_cons,List.length_nil] at lv549;have lv551:=congrArg List.length e551;simp only [List.length_take,List.length_drop,List.length_append,List.length_cons,List.length_nil] at lv551;(try simp only [List.length_cons,List.length_nil]);omega)
  obtain ⟨v553,e553⟩:∃v,(v551++[32])=v:=⟨_,rfl⟩
  have s554:(((v551:List UInt8).length+([32]:List UInt8).length:Nat):Int)≤9223372036854775807:=by (have dh502:=of_decide_eq_true (e501.trans h502);have lv507:v507.length≤1000:=(by rw [← e507];exact zE _);have lv510:v510.length≤1000:=(by rw [← e510];exact zE _);have qv517:v517=ia:=(by rw [← e517,wri (by omega)]);have qv518:=e518;have qv519:v519=(v518+(1)):=(by rw [← e519,wri (by omega)]);have qv520:=zI (a:=v517) (b:=v519) (by omega) (by omega);rw [e520] at qv520;have qv522:=e522;have qv523:v523=il:=(by rw [← e523,wri (by omega)]);have qv524:=zI (a:=v523) (b:=(3:Int)) (by omega) (by omega);rw [e524] at qv524;have qv525:v525=(v520+v524):=(by rw [← e525,wri (by omega)]);have qv526:0≤v526∧v526≤v522:=(by rw [← e526];split<;>omega);have lv529:=congrArg List.length e529;simp only [List.length_take,List.length_drop,List.length_append,List.length_cons,List.length_nil] at lv529;have lv533:=congrArg List.length e533;simp only [List.length_take,List.length_drop,List.length_append,List.length_cons,List.length_nil] at lv533;have lv535:=congrArg List.length e535;simp only [List.length_take,List.length_drop,List.length_append,List.length_cons,List.length_nil] at lv535;have lv539:=congrArg List.length e539;simp only [List.length_take,List.length_drop,List.length_append,List.length_cons,List.length_nil] at lv539;have lv542:=congrArg List.length e542;simp only [List.length_take,List.length_drop,List.length_append,List.length_cons,List.length_nil] at lv542;have lv543:=congrArg List.length e543;simp only [List.length_take,List.length_drop,List.length_append,List.length_cons,List.length_nil] at lv543;have lv545:=congrArg List.length e545;simp only [List.length_take,List.length_drop,List.length_append,List.length_cons,List.length_nil] at lv545;have lv547:=congrArg List.length e547;simp only [List.length_take,List.length_drop,List.length_append,List.length_cons,List.length_nil] at lv547;have lv549:=congrArg List.length e549;simp only [List.length_take,List.length_drop,List.length_append,List.length_cons,List.length_nil] at lv549;have lv551:=congrArg List.length e551;simp only [List.length_take,List.length_drop,List.length_append,List.length_cons,List.length_nil] at lv551;have lv553:=congrArg List.length e553;simp only [List.length_take,List.length_drop,List.length_append,List.length_cons,List.length_nil] at lv553;(try simp only [List.length_cons,List.length_nil]);omega)
  obtain ⟨v555,e555⟩:∃v,(v553++v5)=v:=⟨_,rfl⟩
  have s556:(((v553:List UInt8).length+(v5:List UInt8).length:Nat):Int)≤9223372036854775807:=by (have dh502:=of_decide_eq_true (e501.trans h502);have lv507:v507.length≤1000:=(by rw [← e507];exact zE _);have lv510:v510.length≤1000:=(by rw [← e510];exact zE _);have qv517:v517=ia:=(by rw [← e517,wri (by omega)]);have qv518:=e518;have qv519:v519=(v518+(1)):=(by rw [← e519,wri (by omega)]);have qv520:=zI (a:=v517) (b:=v519) (by omega) (by omega);rw [e520] at qv520;have qv522:=e522;have qv523:v523=il:=(by rw [← e523,wri (by omega)]);have qv524:=zI (a:=v523) (b:=(3:Int)) (by omega) (by omega);rw [e524] at qv524;have qv525:v525=(v520+v524):=(by rw [← e525,wri (by omega)]);have qv526:0≤v526∧v526≤v522:=(by rw [← e526];split<;>omega);have lv529:=congrArg List.length e529;simp only [List.length_take,List.length_drop,List.length_append,List.length_cons,List.length_nil] at lv529;have lv533:=congrArg List.length e533;simp only [List.length_take,List.length_drop,List.length_append,List.length_cons,List.length_nil] at lv533;have lv535:=congrArg List.length e535;simp only [List.length_take,List.length_drop,List.length_append,List.length_cons,List.length_nil] at lv535;have lv539:=congrArg List.length e539;simp only [List.length_take,List.length_drop,List.length_append,List.length_cons,List.length_nil] at lv539;have lv542:=congrArg List.length e542;simp only [List.length_take,List.length_drop,List.length_append,List.length_cons,List.length_nil] at lv542;have lv543:=congrArg List.length e543;simp only [List.length_take,List.length_drop,List.length_append,List.length_cons,List.length_nil] at lv543;have lv545:=congrArg List.length e545;simp only [List.length_take,List.length_drop,List.length_append,List.length_cons,List.length_nil] at lv545;have lv547:=congrArg List.length e547;simp only [List.length_take,List.length_drop,List.length_append,List.length_cons,List.length_nil] at lv547;have lv549:=congrArg List.length e549;simp only [List.length_take,List.length_drop,List.length_append,List.length_cons,List.length_nil] at lv549;have lv551:=congrArg List.length e551;simp only [List.length_take,List.length_drop,List.length_append,List.length_cons,List.length_nil] at lv551;have lv553:=congrArg List.length e553;simp only [List.length_take,List.length_drop,List.length_append,List.length_cons,List.length_nil] at lv553;have lv555:=congrArg List.length e555;simp only [List.length_take,List.length_drop,List.length_append,List.length_cons,List.length_nil] at lv555;(try simp only [List.length_cons,List.length_nil]);omega)
  obtain ⟨v557,e557⟩:∃v,(v555++[41])=v:=⟨_,rfl⟩
  have s558:(((v555:List UInt8).length+([41]:List UInt8).length:Nat):Int)≤9223372036854775807:=by (have dh502:=of_decide_eq_true (e501.trans h502);have lv507:v507.length≤1000:=(by rw [← e507];exact zE _);have lv510:v510.length≤1000:=(by rw [← e510];exact zE _);have qv517:v517=ia:=(by rw [← e517,wri (by omega)]);have qv518:=e518;have qv519:v519=(v518+(1)):=(by rw [← e519,wri (by omega)]);have qv520:=zI (a:=v517) (b:=v519) (by omega) (by omega);rw [e520] at qv520;have qv522:=e522;have qv523:v523=il:=(by rw [← e523,wri (by omega)]);have qv524:=zI (a:=v523) (b:=(3:Int)) (by omega) (by omega);rw [e524] at qv524;have qv525:v525=(v520+v524):=(by rw [← e525,wri (by omega)]);have qv526:0≤v526∧v526≤v522:=(by rw [← e526];split<;>omega);have lv529:=congrArg List.length e529;simp only [List.length_take,List.length_drop,List.length_append,List.length_cons,List.length_nil] at lv529;have lv533:=congrArg List.length e533;simp only [List.length_take,List.length_drop,List.length_append,List.length_cons,List.length_nil] at lv533;have lv535:=congrArg List.length e535;simp only [List.length_take,List.length_drop,List.length_append,List.length_cons,List.length_nil] at lv535;have lv539:=congrArg List.length e539;simp only [List.length_take,List.length_drop,List.length_append,List.length_cons,List.length_nil] at lv539;have lv542:=congrArg List.length e542;simp only [List.length_take,List.length_drop,List.length_append,List.length_cons,List.length_nil] at lv542;have lv543:=congrArg List.length e543;simp only [List.length_take,List.length_drop,List.length_append,List.length_cons,List.length_nil] at lv543;have lv545:=congrArg List.length e545;simp only [List.length_take,List.length_drop,List.length_append,List.length_cons,List.length_nil] at lv545;have lv547:=congrArg List.length e547;simp only [List.length_take,List.length_drop,List.length_append,List.length_cons,List.length_nil] at lv547;have lv549:=congrArg List.length e549;simp only [List.length_take,List.length_drop,List.length_append,List.length_cons,List.length_nil] at lv549;have lv551:=congrArg List.length e551;simp only [List.length_take,List.length_drop,List.length_append,List.length_cons,List.length_nil] at lv551;have lv553:=congrArg List.length e553;simp only [List.length_take,List.length_drop,List.length_append,List.length_cons,List.length_nil] at lv553;have lv555:=congrArg List.length e555;simp only [List.length_take,List.length_drop,List.length_append,List.length_cons,List.length_nil] at lv555;have lv557:=congrArg List.length e557;simp only [List.length_take,List.length_drop,List.length_append,List.length_cons,List.length_nil] at lv557;(try simp only [List.length_cons,List.length_nil]);omega)
  obtain ⟨v559,e559⟩:∃v,(([v510,v535,v545,v547,v549,v557]:List (List UInt8)))=v:=⟨_,rfl⟩
  obtain ⟨v560,e560⟩:∃v,(o++v559)=v:=⟨_,rfl⟩
  have s561:(o.length+v559.length)*1≤1099511627776:=by (have dh502:=of_decide_eq_true (e501.trans h502);have lv507:v507.length≤1000:=(by rw [← e507];exact zE _);have lv510:v510.length≤1000:=(by rw [← e510];exact zE _);have qv517:v517=ia:=(by rw [← e517,wri (by omega)]);have qv518:=e518;have qv519:v519=(v518+(1)):=(by rw [← e519,wri (by omega)]);have qv520:=zI (a:=v517) (b:=v519) (by omega) (by omega);rw [e520] at qv520;have qv522:=e522;have qv523:v523=il:=(by rw [← e523,wri (by omega)]);have qv524:=zI (a:=v523) (b:=(3:Int)) (by omega) (by omega);rw [e524] at qv524;have qv525:v525=(v520+v524):=(by rw [← e525,wri (by omega)]);have qv526:0≤v526∧v526≤v522:=(by rw [← e526];split<;>omega);have lv529:=congrArg List.length e529;simp only [List.length_take,List.length_drop,List.length_append,List.length_cons,List.length_nil] at lv529;have lv533:=congrArg List.length e533;simp only [List.length_take,List.length_drop,List.length_append,List.length_cons,List.length_nil] at lv533;have lv535:=congrArg List.length e535;simp only [List.length_take,List.length_drop,List.length_append,List.length_cons,List.length_nil] at lv535;have lv539:=congrArg List.length e539;simp only [List.length_take,List.length_drop,List.length_append,List.length_cons,List.length_nil] at lv539;have lv542:=congrArg List.length e542;simp only [List.length_take,List.length_drop,List.length_append,List.length_cons,List.length_nil] at lv542;have lv543:=congrArg List.length e543;simp only [List.length_take,List.length_drop,List.length_append,List.length_cons,List.length_nil] at lv543;have lv545:=congrArg List.length e545;simp only [List.length_take,List.length_drop,List.length_append,List.length_cons,List.length_nil] at lv545;have lv547:=congrArg List.length e547;simp only [List.length_take,List.length_drop,List.length_append,List.length_cons,List.length_nil] at lv547;have lv549:=congrArg List.length e549;simp only [List.length_take,List.length_drop,List.length_append,List.length_cons,List.length_nil] at lv549;have lv551:=congrArg List.length e551;simp only [List.length_take,List.length_drop,List.length_append,List.length_cons,List.length_nil] at lv551;have lv553:=congrArg List.length e553;simp only [List.length_take,List.length_drop,List.length_append,List.length_cons,List.length_nil] at lv553;have lv555:=congrArg List.length e555;simp only [List.length_take,List.length_drop,List.length_append,List.length_cons,List.length_nil] at lv555;have lv557:=congrArg List.length e557;simp only [List.length_take,List.length_drop,List.length_append,List.length_cons,List.length_nil] at lv557;have lv559:=congrArg List.length e559;simp only [List.length_cons,List.length_nil] at lv559;(try simp only [List.length_cons,List.length_nil]);omega)
  obtain ⟨v562,e562⟩:∃v,(IntKind.i64.wrap (ja+(1:Int)))=v:=⟨_,rfl⟩
  refine .inr ⟨⟨v562,v560⟩,⟨v501,n503,x504,v507,v508,v510,v511,v513,v515,v517,v518,v519,v520,v522,v523,v524,v525,v526,n527,v529,n531,v533,v535,n537,v539,v542,v543,v545,v547,v549,v551,v553,v555,v557,v559,v560,v562,e501,e507,e508,e510,e511,e513,e515,e517,e518,e519,e520,e522,e523,e524,e525,e526,e529,e533,e535,e539,e542,e543,e545,e547,e549,e551,e553,e555,e557,e559,e560,e562,h502,s505,s506,s509,s512,s514,s516,s521,s528,s530,s532,s534,s536,s538,s540,s541,s544,s546,s548,s550,s552,s554,s556,s558,s561,rfl,rfl,trivial⟩,?_,?_⟩
  all_goals (obtain rfl:n503=j:=(by omega);have hlt:n503<v7.length:=(List.getElem?_eq_some_iff.1 s506).1;have x3:v562=((n503+1:Nat):Int):=(by rw [← e562,hi,wri (by omega)];omega);have hst:v559=stepT ia ib il v5 x504:=(by obtain rfl:n527=v526.toNat:=(by omega);obtain rfl:n531=v520.toNat:=(by omega);obtain rfl:n537=v520.toNat:=(by omega);clear hO ho hlo ho2;subst_vars;rfl))
  ·show (v9 - v562).toNat<(v9 - ja).toNat
   omega
  ·refine ⟨n503+1,x3,by omega,?_⟩
   have hd:v7.drop n503=x504::v7.drop (n503+1):=by
    obtain ⟨hk,hx⟩:=List.getElem?_eq_some_iff.1 s506
    rw [← hx];exact List.drop_eq_getElem_cons hk
   rw [hd,List.flatMap_cons,← hst,← List.append_assoc,e560] at ho
   exact ho
 | false =>
  refine .inl (⟨v501,e501,h502,?_,trivial⟩)
  show o=o2
  have dh502:=of_decide_eq_false (e501.trans h502)
  rw [List.drop_eq_nil_of_le (by omega),List.flatMap_nil,List.append_nil] at ho
  exact ho
theorem zi9 {w0:World} (c:(List Int×(Int×Int×Int)×(Int×Int×Int))) (ia:Int) (ib:Int) (il:Int) (s:(List UInt8)) (hL:LibT w0) (v1:Int) (v2:Int) (n3:Nat) (v5:(List UInt8)) (v7:(List Xp)) (v9:Int) (o2:(List (List UInt8))) (v10:Int) (e1:(((s:List UInt8).length:Int))=v1) (e2:((if (40:Int)<v1 then (40:Int) else v1))=v2) (e5:((s:List UInt8).take n3)=v5) (e7:(allX c.1 c.2.1 c.2.2)=v7) (e9:((v7.length:Int))=v9) (e10:((o2.length:Int))=v10) (s4:v2=(n3:Int)) (s6:n3≤(s:List UInt8).length) (s8:c.1.length<9223372036854775807) (L_tx_A:∀R:Frm,R.pm=⟨ntOf Tryz.prog 3,[],[]⟩→zi (KN w0) Tryz.prog (FL [pLs cI c.1,pI c.2.1.1,pI c.2.1.2.1,pI c.2.1.2.2,pI c.2.2.1,pI c.2.2.2.1,pI c.2.2.2.2,pV (.int .u8 ia),pV (.int .u8 ib),pV (.int .u8 il),pS s,pI v1,pI v2,pS v5,pLs cE v7,pI v9,pI v10,pLs cS o2] [pG cS ([v5]:List (List UInt8)),pG cS o2]) R zef (lp Tryz.prog 3 0)) (L_tx_B:∀R:Frm,R.pm=⟨ntOf Tryz.prog 3,[],[]⟩→zi (KN w0) Tryz.prog (FL [pLs cI c.1,pI c.2.1.1,pI c.2.1.2.1,pI c.2.1.2.2,pI c.2.2.1,pI c.2.2.2.1,pI c.2.2.2.2,pV (.int .u8 ia),pV (.int .u8 ib),pV (.int .u8 il),pS s,pI v1,pI v2,pS v5,pLs cE v7,pI v9,pI v10,pLs cS o2] [pG cS ([v5]:List (List UInt8)),pG cS o2]) R zeg (lp Tryz.prog 3 1)):Fun (KN w0) Tryz.prog 3 [.o (.g [pLs cI c.1,pI c.2.1.1,pI c.2.1.2.1,pI c.2.1.2.2,pI c.2.2.1,pI c.2.2.2.1,pI c.2.2.2.2]),.o (.c (pV (.int .u8 ia))),.o (.c (pV (.int .u8 ib))),.o (.c (pV (.int .u8 il))),.o (.c (pS s))] (.o (.c (pV (.bool true)))):=
 zk (zS (F:=FL [pLs cI c.1,pI c.2.1.1,pI c.2.1.2.1,pI c.2.1.2.2,pI c.2.2.1,pI c.2.2.2.1,pI c.2.2.2.2,pV (.int .u8 ia),pV (.int .u8 ib),pV (.int .u8 il),pS s,pI v1,pI v2,pS v5,pLs cE v7,pI v9,pI v10,pLs cS o2] [pG cS ([v5]:List (List UInt8)),pG cS o2]) (C:=[(1000002,.call ⟨4,[],[],.o (.c (.k (.bool true))),[]⟩),
  (1000006,.op (.len [9] 3) [yh 10] [] (yh 11)),
  (1000007,.op (.min [3,3] 3) [yh 11,LF (.k (.int .i64 40))] [] (yh 12)),
  (1000008,.op (.sc 9 false true false) [yh 10,yh 12] [] (yh 13)),
  (1000011,.glt 9 1 [.h 13] 0),
  (1000014,.call ⟨5,[.o (.g [.h 0,.h 1,.h 2,.h 3,.h 4,.h 5,.h 6])],[],yh 14,[]⟩),
  (1000015,.op (.len [29] 3) [yh 14] [] (yh 15)),
  (1001018,.op (.len [28] 3) [LF (.gr 11)] [.gl 11 9 1 1] (yh 16))]) (k:=⟨3,[.o (.g [.h 0,.h 1,.h 2,.h 3,.h 4,.h 5,.h 6]),yh 7,yh 8,yh 9,yh 10],[],.o (.c (.k (.bool true))),[]⟩) ⟨[zef,zeg],[⟨15,.gl 11 9 1 1::[107].map (fun s=>.sl s (.o (.c (.gr 11)))),[107].map (fun s=>.sl s (yh 17)),[11]⟩],0⟩ [] 0 (zg ⟨(ze zt),za,za,za,za,za,za,za,za,za,za,za,za,za,(ze (zf rfl)),za,za,(ze zN),trivial⟩ ⟨(qO zN),(qO zN),trivial⟩) ⟨zh (zmZ hL),
  e_op1 (zb rfl) (zb rfl) (fun W=>by rw [← e1];exact qf (by kernel_rfl) W),
  e_op2 (zb rfl) zd (zb rfl) (fun W=>by rw [← e2];exact zaV W),
  e_op2 (zb rfl) (zb rfl) (zb rfl) (fun W=>by rw [← e5];exact zfC (by kernel_rfl) s4 s6 W),
  e_glt (c:=cS) (l:=([v5]:List (List UInt8))) rfl rfl (fun _ _ _ h=>h) rfl zN (by decide),
  zh (zpt c v7 e7 s8),
  zF (E:=32) (by kernel_rfl) (zc rfl) (zb (by rw [← e9];rfl)),
  zoU (c:=cS) (by kernel_rfl) (fun _=>rfl) (by decide) rfl (zb (by rw [← e10];rfl)),
  trivial⟩ mixed ⟨zjO (c:=cS) (fun _=>rfl) (by decide) zN rfl rfl,trivial⟩ (fun R hR p hp s hs=>by
 have hl:zH (qu Tryz.prog 3)=[(5,lp Tryz.prog 3 0),(16,lp Tryz.prog 3 1)]:=by kernel_rfl
 rw [hl] at hp
 simp only [List.mem_cons,List.not_mem_nil,or_false] at hp
 rcases hp with rfl | rfl
 ·have e:s=zef:=(Option.some.inj hs).symm
  subst e;exact L_tx_A R hR
 ·have e:s=zeg:=(Option.some.inj hs).symm
  subst e;exact L_tx_B R hR) (by kernel_rfl))
theorem zoK {w0:World} (hL:LibT w0) (c:List Int×(Int×Int×Int)×(Int×Int×Int)) (ia ib il:Int) (s:List UInt8) (hcl:c.1.length<9223372036854775807) (hia:0≤ia∧ia<256) (hib:0≤ib∧ib<256) (hil:0≤il∧il<256) (hsl:s.length<9223372036854775807):Fun (KN w0) Tryz.prog 3 [.o (.g [pLs cI c.1,pI c.2.1.1,pI c.2.1.2.1,pI c.2.1.2.2,pI c.2.2.1,pI c.2.2.2.1,pI c.2.2.2.2]),.o (.c (pV (.int .u8 ia))),.o (.c (pV (.int .u8 ib))),.o (.c (pV (.int .u8 il))),.o (.c (pS s))] (.o (.c (pV (.bool true)))):=by
 obtain ⟨v1,e1⟩:∃v,(((s:List UInt8).length:Int))=v:=⟨_,rfl⟩
 obtain ⟨v2,e2⟩:∃v,((if (40:Int)<v1 then (40:Int) else v1))=v:=⟨_,rfl⟩
 obtain ⟨n3,s4⟩:∃(n3:Nat),v2=(n3:Int):=by (refine ⟨v2.toNat,?_⟩;have q:=e2;rw [← e1] at q;split at q<;>omega)
 obtain ⟨v5,e5⟩:∃v,((s:List UInt8).take n3)=v:=⟨_,rfl⟩
 have s6:n3≤(s:List UInt8).length:=by (have q:=e2;rw [← e1] at q;split at q<;>omega)
 obtain ⟨v7,e7⟩:∃v,(allX c.1 c.2.1 c.2.2)=v:=⟨_,rfl⟩
 have s8:c.1.length<9223372036854775807:=by exact hcl
 obtain ⟨v9,e9⟩:∃v,((v7.length:Int))=v:=⟨_,rfl⟩
 obtain ⟨o2,hO_tx_A⟩:∃(o2:(List (List UInt8))),([v5]:List (List UInt8))++v7.flatMap (stepT ia ib il v5)=o2:=⟨_,rfl⟩
 obtain ⟨v10,e10⟩:∃v,((o2.length:Int))=v:=⟨_,rfl⟩
 refine Fun.imp (zi9 c ia ib il s hL v1 v2 n3 v5 v7 v9 o2 v10 e1 e2 e5 e7 e9 e10 s4 s6 s8 (fun R hR=>zoj hL c ia ib il s v1 v2 n3 v5 v7 v9  o2 rfl rfl rfl rfl rfl rfl rfl rfl rfl rfl rfl rfl rfl rfl rfl R hR e9 (by rw [← e7];exact (Nat.le_of_ble_eq_true rfl)) (by rw [← e7];exact zlG) (by have q:=e2;rw [← e1] at q;rw [← e5,List.length_take];split at q<;>omega) hia hib hil hO_tx_A (by rw [← hO_tx_A,List.length_append,ze4,← e7];exact (Nat.le_of_ble_eq_true rfl))) (fun R hR=>zom hL c ia ib il s v1 v2 n3 v5 v7 v9 o2 v10   rfl rfl rfl rfl rfl rfl rfl rfl rfl rfl rfl rfl rfl rfl rfl R hR e10 (by rw [← hO_tx_A,List.length_append,ze4,← e7];exact (Nat.le_of_ble_eq_true rfl)) (by rw [← hO_tx_A];exact zgN (by have q:=e2;rw [← e1] at q;rw [← e5,List.length_take];split at q<;>omega) _))) (fun _ _ _ h=>h) (fun v W D h=>?_)
 exact h
theorem zm1 {w0:World} (hL:LibT w0) (l:List Int) (a b c d e f:Int) (ia ib il:Int) (s:List UInt8) (hl:l.length<9223372036854775807) (hia:0≤ia∧ia<256) (hib:0≤ib∧ib<256) (hil:0≤il∧il<256) (hs:s.length<9223372036854775807):Fun (KN w0) Tryz.prog 3 [.o (.g [pLs cI l,pI a,pI b,pI c,pI d,pI e,pI f]),.o (.c (pV (.int .u8 ia))),.o (.c (pV (.int .u8 ib))),.o (.c (pV (.int .u8 il))),.o (.c (pS s))] (.o (.c (pV (.bool true)))):=zoK hL (l,(a,b,c),(d,e,f)) ia ib il s hl hia hib hil hs
end Go.Proofs.YtdkofaajcpcjkaaGreatDoor
