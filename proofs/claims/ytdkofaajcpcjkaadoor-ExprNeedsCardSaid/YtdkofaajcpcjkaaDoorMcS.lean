/-
  Merged: ExU, ExY, ExPt, ExGs.
-/
import Derived.Test.YtdkofaajcpcjkaaDoorMcR
import Derived.Test.YtdkofaajcpcjkaaDoorMcE
set_option linter.unusedSimpArgs false
set_option linter.unusedVariables false
set_option maxRecDepth 100000
namespace Go.Proofs.YtdkofaajcpcjkaaDoor
open Go.RowKit
def qD (w0:World) (N:Nat):Prop:=∀(g D:Int) (l:List Int) (a:Int) (e:Xp) (p:Int),(madeX g D.toNat (l.drop a.toNat)).1=e→posA l (madeX g D.toNat (l.drop a.toNat)).2=p→0≤D∧D.toNat<N→0≤g∧g≤4→0≤a∧a≤l.length→l.length<9223372036854775807 →
 BFun false (KN w0) Tryd.prog 55 [.o (.c (.p 0 0)),.o (.c (.d (pI g))),.o (.c (.d (pI D)))] [(79,[.d (pLs cI l),.d (pI a)])] (.o (.g [.d (pI e.op),.d (pI e.n),.d (pLs cE e.l)])) [(79,[.d (pLs cI l),.d (pI p)])]
theorem zbW {g D:Int} {L:List Int} (h:D=0∨(drawX L 10).1<4) (hx:(drawX L 10).1%2=1) (hg:0<g):madeX g D.toNat L=(.mk 2 (drawX (drawX L 10).2 g).1 [],(drawX (drawX L 10).2 g).2):=by
 cases hd:D.toNat with
 | zero=>rw [madeX,if_pos ⟨hx,hg⟩]
 | succ d=>rw [madeX,if_pos (h.resolve_left (by omega)),if_pos ⟨hx,hg⟩]
theorem zah {g D:Int} {L:List Int} (h:D=0∨(drawX L 10).1<4) (hx:¬ ((drawX L 10).1%2=1∧0<g)):madeX g D.toNat L=(.mk 1 ((drawX (drawX L 10).2 17).1 - 8) [],(drawX (drawX L 10).2 17).2):=by
 cases hd:D.toNat with
 | zero=>rw [madeX,if_neg hx]
 | succ d=>rw [madeX,if_pos (h.resolve_left (by omega)),if_neg hx]
theorem zhU {g D:Int} {L:List Int} (h:0<D) (hx:¬ (drawX L 10).1<4):madeX g D.toNat L=(.mk (3+(drawX (drawX L 10).2 5).1) 0 [(madeX g (D - 1).toNat (drawX (drawX L 10).2 5).2).1,(madeX g (D - 1).toNat (madeX g (D - 1).toNat (drawX (drawX L 10).2 5).2).2).1],(madeX g (D - 1).toNat (madeX g (D - 1).toNat (drawX (drawX L 10).2 5).2).2).2):=by
 rw [show D.toNat=(D - 1).toNat+1 by omega,madeX,if_neg hx]
theorem ziL {w0:World} (l:(List Int)) (a:Int) (g:Int) (D:Int) (N:Nat) (IH:qD w0 N) (v1:Int) (v2:Int) (v5:Bool) (v7:Int) (v8:Bool) (v10:Bool) (v12:Int) (v13:Int) (e1:((drawX (l.drop (a:Int).toNat) (10:Int)).1)=v1) (e2:(posA l (drawX (l.drop (a:Int).toNat) (10:Int)).2)=v2) (e5:((D == (0:Int)))=v5) (e7:((v1:Int).tmod (2:Int))=v7) (e8:((v7 == (1:Int)))=v8) (e10:(decide (g > (0:Int)))=v10) (e12:((drawX (l.drop (v2:Int).toNat) g).1)=v12) (e13:(posA l (drawX (l.drop (v2:Int).toNat) g).2)=v13) (s3:0≤a∧a≤l.length) (s4:l.length<9223372036854775807) (h6:v5=true) (h9:v8=true) (h11:v10=true) (s14:0≤v2∧v2≤l.length) (s15:l.length<9223372036854775807):BFun false (KN w0) Tryd.prog 55 [.o (.c (.p 0 0)),.o (.c (.d (pI g))),.o (.c (.d (pI D)))] [(79,[.d (pLs cI l),.d (pI a)])] (.o (.g [.d (pV (.int .i64 2)),.d (pI v12),.d (pV (.slice none 0 0))])) [(79,[.d (pLs cI l),.d (pI v13)])] :=
 con_b (pan:=false) (zl (F:=FL [pLs cI l,pI a,pI g,pI D,pI v1,pI v2,pB v5,pI v7,pB v8,pB v10,pI v12,pI v13] []) (C:=[(1000002,.call ⟨72,[.o (.c (.p 900 0)),.o (.c (.k (.int .i64 10)))],[.bx 900 79 [.h 0,.h 1]],.o (.c (.h 4)),[.bx 900 79 [.h 0,.h 5]]⟩),
  (1000005,.bin .eql 3 (LF (.h 3)) (LF (.k (.int .i64 0))) (LF (.h 6))),
  (10006,.fb 6 true),
  (1000011,.bin .rem 3 (LF (.h 4)) (LF (.k (.int .i64 2))) (LF (.h 7))),
  (1000012,.bin .eql 3 (LF (.h 7)) (LF (.k (.int .i64 1))) (LF (.h 8))),
  (10008,.fb 8 true),
  (1000015,.bin .gtr 3 (LF (.h 2)) (LF (.k (.int .i64 0))) (LF (.h 9))),
  (10009,.fb 9 true),
  (1000019,.call ⟨72,[.o (.c (.p 900 0)),.o (.c (.h 2))],[.bx 900 79 [.h 0,.h 5]],.o (.c (.h 10)),[.bx 900 79 [.h 0,.h 11]]⟩)]) (k:=⟨55,[.o (.c (.p 900 0)),.o (.c (.h 2)),.o (.c (.h 3))],[.bx 900 79 [.h 0,.h 1]],.o (.g [.k (.int .i64 2),.h 10,.k (.slice none 0 0)]),[.bx 900 79 [.h 0,.h 11]]⟩) 0 (zi ⟨(ze zf),zb rfl,zb rfl,zb rfl,zb rfl,zb rfl,zb rfl,zb rfl,zb rfl,zb rfl,zb rfl,zb rfl,trivial⟩) ⟨b_con (pan:=false) (qE (10:Int) l a v1 v2 e1 e2 s3 s4) (by kernel_rfl) rfl rfl rfl rfl,
  e_bin (za rfl) zc (za rfl) (r_cmp (congrArg some e5)),
  e_fb (show pV (.bool v5)=_ by rw [h6]),
  e_bin (za rfl) zc (za rfl) (r_ar ((zU (by decide)).trans (congrArg some e7))),
  e_bin (za rfl) zc (za rfl) (r_cmp (congrArg some e8)),
  e_fb (show pV (.bool v8)=_ by rw [h9]),
  e_bin (za rfl) zc (za rfl) (r_cmp (congrArg some e10)),
  e_fb (show pV (.bool v10)=_ by rw [h11]),
  b_con (pan:=false) (qE g l v2 v12 v13 e12 e13 s14 s15) (by kernel_rfl) rfl rfl rfl rfl,
  trivial⟩ mixed (by kernel_rfl)) (by kernel_rfl) rfl rfl rfl rfl
theorem ziM {w0:World} (l:(List Int)) (a:Int) (g:Int) (D:Int) (N:Nat) (IH:qD w0 N) (v1:Int) (v2:Int) (v5:Bool) (v7:Int) (v8:Bool) (v10:Bool) (v12:Int) (v13:Int) (v16:Int) (e1:((drawX (l.drop (a:Int).toNat) (10:Int)).1)=v1) (e2:(posA l (drawX (l.drop (a:Int).toNat) (10:Int)).2)=v2) (e5:((D == (0:Int)))=v5) (e7:((v1:Int).tmod (2:Int))=v7) (e8:((v7 == (1:Int)))=v8) (e10:(decide (g > (0:Int)))=v10) (e12:((drawX (l.drop (v2:Int).toNat) (17:Int)).1)=v12) (e13:(posA l (drawX (l.drop (v2:Int).toNat) (17:Int)).2)=v13) (e16:(IntKind.i64.wrap (v12 - (8:Int)))=v16) (s3:0≤a∧a≤l.length) (s4:l.length<9223372036854775807) (h6:v5=true) (h9:v8=true) (h11:v10=false) (s14:0≤v2∧v2≤l.length) (s15:l.length<9223372036854775807):BFun false (KN w0) Tryd.prog 55 [.o (.c (.p 0 0)),.o (.c (.d (pI g))),.o (.c (.d (pI D)))] [(79,[.d (pLs cI l),.d (pI a)])] (.o (.g [.d (pV (.int .i64 1)),.d (pI v16),.d (pV (.slice none 0 0))])) [(79,[.d (pLs cI l),.d (pI v13)])] :=
 con_b (pan:=false) (zl (F:=FL [pLs cI l,pI a,pI g,pI D,pI v1,pI v2,pB v5,pI v7,pB v8,pB v10,pI v12,pI v13,pI v16] []) (C:=[(1000002,.call ⟨72,[.o (.c (.p 900 0)),.o (.c (.k (.int .i64 10)))],[.bx 900 79 [.h 0,.h 1]],.o (.c (.h 4)),[.bx 900 79 [.h 0,.h 5]]⟩),
  (1000005,.bin .eql 3 (LF (.h 3)) (LF (.k (.int .i64 0))) (LF (.h 6))),
  (10006,.fb 6 true),
  (1000011,.bin .rem 3 (LF (.h 4)) (LF (.k (.int .i64 2))) (LF (.h 7))),
  (1000012,.bin .eql 3 (LF (.h 7)) (LF (.k (.int .i64 1))) (LF (.h 8))),
  (10008,.fb 8 true),
  (1000015,.bin .gtr 3 (LF (.h 2)) (LF (.k (.int .i64 0))) (LF (.h 9))),
  (10009,.fb 9 false),
  (1000018,.call ⟨72,[.o (.c (.p 900 0)),.o (.c (.k (.int .i64 17)))],[.bx 900 79 [.h 0,.h 5]],.o (.c (.h 10)),[.bx 900 79 [.h 0,.h 11]]⟩),
  (1000019,.bin .sub 3 (LF (.h 10)) (LF (.k (.int .i64 8))) (LF (.h 12)))]) (k:=⟨55,[.o (.c (.p 900 0)),.o (.c (.h 2)),.o (.c (.h 3))],[.bx 900 79 [.h 0,.h 1]],.o (.g [.k (.int .i64 1),.h 12,.k (.slice none 0 0)]),[.bx 900 79 [.h 0,.h 11]]⟩) 0 (zi ⟨(ze zf),zb rfl,zb rfl,zb rfl,zb rfl,zb rfl,zb rfl,zb rfl,zb rfl,zb rfl,zb rfl,zb rfl,zb rfl,trivial⟩) ⟨b_con (pan:=false) (qE (10:Int) l a v1 v2 e1 e2 s3 s4) (by kernel_rfl) rfl rfl rfl rfl,
  e_bin (za rfl) zc (za rfl) (r_cmp (congrArg some e5)),
  e_fb (show pV (.bool v5)=_ by rw [h6]),
  e_bin (za rfl) zc (za rfl) (r_ar ((zU (by decide)).trans (congrArg some e7))),
  e_bin (za rfl) zc (za rfl) (r_cmp (congrArg some e8)),
  e_fb (show pV (.bool v8)=_ by rw [h9]),
  e_bin (za rfl) zc (za rfl) (r_cmp (congrArg some e10)),
  e_fb (show pV (.bool v10)=_ by rw [h11]),
  b_con (pan:=false) (qE (17:Int) l v2 v12 v13 e12 e13 s14 s15) (by kernel_rfl) rfl rfl rfl rfl,
  e_bin (za rfl) zc (za rfl) (r_ar (congrArg some e16)),
  trivial⟩ mixed (by kernel_rfl)) (by kernel_rfl) rfl rfl rfl rfl
theorem ziN {w0:World} (l:(List Int)) (a:Int) (g:Int) (D:Int) (N:Nat) (IH:qD w0 N) (v1:Int) (v2:Int) (v5:Bool) (v7:Int) (v8:Bool) (v10:Int) (v11:Int) (v14:Int) (e1:((drawX (l.drop (a:Int).toNat) (10:Int)).1)=v1) (e2:(posA l (drawX (l.drop (a:Int).toNat) (10:Int)).2)=v2) (e5:((D == (0:Int)))=v5) (e7:((v1:Int).tmod (2:Int))=v7) (e8:((v7 == (1:Int)))=v8) (e10:((drawX (l.drop (v2:Int).toNat) (17:Int)).1)=v10) (e11:(posA l (drawX (l.drop (v2:Int).toNat) (17:Int)).2)=v11) (e14:(IntKind.i64.wrap (v10 - (8:Int)))=v14) (s3:0≤a∧a≤l.length) (s4:l.length<9223372036854775807) (h6:v5=true) (h9:v8=false) (s12:0≤v2∧v2≤l.length) (s13:l.length<9223372036854775807):BFun false (KN w0) Tryd.prog 55 [.o (.c (.p 0 0)),.o (.c (.d (pI g))),.o (.c (.d (pI D)))] [(79,[.d (pLs cI l),.d (pI a)])] (.o (.g [.d (pV (.int .i64 1)),.d (pI v14),.d (pV (.slice none 0 0))])) [(79,[.d (pLs cI l),.d (pI v11)])] :=
 con_b (pan:=false) (zl (F:=FL [pLs cI l,pI a,pI g,pI D,pI v1,pI v2,pB v5,pI v7,pB v8,pI v10,pI v11,pI v14] []) (C:=[(1000002,.call ⟨72,[.o (.c (.p 900 0)),.o (.c (.k (.int .i64 10)))],[.bx 900 79 [.h 0,.h 1]],.o (.c (.h 4)),[.bx 900 79 [.h 0,.h 5]]⟩),
  (1000005,.bin .eql 3 (LF (.h 3)) (LF (.k (.int .i64 0))) (LF (.h 6))),
  (10006,.fb 6 true),
  (1000011,.bin .rem 3 (LF (.h 4)) (LF (.k (.int .i64 2))) (LF (.h 7))),
  (1000012,.bin .eql 3 (LF (.h 7)) (LF (.k (.int .i64 1))) (LF (.h 8))),
  (10008,.fb 8 false),
  (1000018,.call ⟨72,[.o (.c (.p 900 0)),.o (.c (.k (.int .i64 17)))],[.bx 900 79 [.h 0,.h 5]],.o (.c (.h 9)),[.bx 900 79 [.h 0,.h 10]]⟩),
  (1000019,.bin .sub 3 (LF (.h 9)) (LF (.k (.int .i64 8))) (LF (.h 11)))]) (k:=⟨55,[.o (.c (.p 900 0)),.o (.c (.h 2)),.o (.c (.h 3))],[.bx 900 79 [.h 0,.h 1]],.o (.g [.k (.int .i64 1),.h 11,.k (.slice none 0 0)]),[.bx 900 79 [.h 0,.h 10]]⟩) 0 (zi ⟨(ze zf),zb rfl,zb rfl,zb rfl,zb rfl,zb rfl,zb rfl,zb rfl,zb rfl,zb rfl,zb rfl,zb rfl,trivial⟩) ⟨b_con (pan:=false) (qE (10:Int) l a v1 v2 e1 e2 s3 s4) (by kernel_rfl) rfl rfl rfl rfl,
  e_bin (za rfl) zc (za rfl) (r_cmp (congrArg some e5)),
  e_fb (show pV (.bool v5)=_ by rw [h6]),
  e_bin (za rfl) zc (za rfl) (r_ar ((zU (by decide)).trans (congrArg some e7))),
  e_bin (za rfl) zc (za rfl) (r_cmp (congrArg some e8)),
  e_fb (show pV (.bool v8)=_ by rw [h9]),
  b_con (pan:=false) (qE (17:Int) l v2 v10 v11 e10 e11 s12 s13) (by kernel_rfl) rfl rfl rfl rfl,
  e_bin (za rfl) zc (za rfl) (r_ar (congrArg some e14)),
  trivial⟩ mixed (by kernel_rfl)) (by kernel_rfl) rfl rfl rfl rfl
theorem ziO {w0:World} (l:(List Int)) (a:Int) (g:Int) (D:Int) (N:Nat) (IH:qD w0 N) (v1:Int) (v2:Int) (v5:Bool) (v7:Bool) (v9:Int) (v10:Bool) (v12:Bool) (v14:Int) (v15:Int) (e1:((drawX (l.drop (a:Int).toNat) (10:Int)).1)=v1) (e2:(posA l (drawX (l.drop (a:Int).toNat) (10:Int)).2)=v2) (e5:((D == (0:Int)))=v5) (e7:(decide (v1<(4:Int)))=v7) (e9:((v1:Int).tmod (2:Int))=v9) (e10:((v9 == (1:Int)))=v10) (e12:(decide (g > (0:Int)))=v12) (e14:((drawX (l.drop (v2:Int).toNat) g).1)=v14) (e15:(posA l (drawX (l.drop (v2:Int).toNat) g).2)=v15) (s3:0≤a∧a≤l.length) (s4:l.length<9223372036854775807) (h6:v5=false) (h8:v7=true) (h11:v10=true) (h13:v12=true) (s16:0≤v2∧v2≤l.length) (s17:l.length<9223372036854775807):BFun false (KN w0) Tryd.prog 55 [.o (.c (.p 0 0)),.o (.c (.d (pI g))),.o (.c (.d (pI D)))] [(79,[.d (pLs cI l),.d (pI a)])] (.o (.g [.d (pV (.int .i64 2)),.d (pI v14),.d (pV (.slice none 0 0))])) [(79,[.d (pLs cI l),.d (pI v15)])] :=
 con_b (pan:=false) (zl (F:=FL [pLs cI l,pI a,pI g,pI D,pI v1,pI v2,pB v5,pB v7,pI v9,pB v10,pB v12,pI v14,pI v15] []) (C:=[(1000002,.call ⟨72,[.o (.c (.p 900 0)),.o (.c (.k (.int .i64 10)))],[.bx 900 79 [.h 0,.h 1]],.o (.c (.h 4)),[.bx 900 79 [.h 0,.h 5]]⟩),
  (1000005,.bin .eql 3 (LF (.h 3)) (LF (.k (.int .i64 0))) (LF (.h 6))),
  (10006,.fb 6 false),
  (1000008,.bin .lss 3 (LF (.h 4)) (LF (.k (.int .i64 4))) (LF (.h 7))),
  (10007,.fb 7 true),
  (1000011,.bin .rem 3 (LF (.h 4)) (LF (.k (.int .i64 2))) (LF (.h 8))),
  (1000012,.bin .eql 3 (LF (.h 8)) (LF (.k (.int .i64 1))) (LF (.h 9))),
  (10009,.fb 9 true),
  (1000015,.bin .gtr 3 (LF (.h 2)) (LF (.k (.int .i64 0))) (LF (.h 10))),
  (10010,.fb 10 true),
  (1000019,.call ⟨72,[.o (.c (.p 900 0)),.o (.c (.h 2))],[.bx 900 79 [.h 0,.h 5]],.o (.c (.h 11)),[.bx 900 79 [.h 0,.h 12]]⟩)]) (k:=⟨55,[.o (.c (.p 900 0)),.o (.c (.h 2)),.o (.c (.h 3))],[.bx 900 79 [.h 0,.h 1]],.o (.g [.k (.int .i64 2),.h 11,.k (.slice none 0 0)]),[.bx 900 79 [.h 0,.h 12]]⟩) 0 (zi ⟨(ze zf),zb rfl,zb rfl,zb rfl,zb rfl,zb rfl,zb rfl,zb rfl,zb rfl,zb rfl,zb rfl,zb rfl,zb rfl,trivial⟩) ⟨b_con (pan:=false) (qE (10:Int) l a v1 v2 e1 e2 s3 s4) (by kernel_rfl) rfl rfl rfl rfl,
  e_bin (za rfl) zc (za rfl) (r_cmp (congrArg some e5)),
  e_fb (show pV (.bool v5)=_ by rw [h6]),
  e_bin (za rfl) zc (za rfl) (r_cmp (congrArg some e7)),
  e_fb (show pV (.bool v7)=_ by rw [h8]),
  e_bin (za rfl) zc (za rfl) (r_ar ((zU (by decide)).trans (congrArg some e9))),
  e_bin (za rfl) zc (za rfl) (r_cmp (congrArg some e10)),
  e_fb (show pV (.bool v10)=_ by rw [h11]),
  e_bin (za rfl) zc (za rfl) (r_cmp (congrArg some e12)),
  e_fb (show pV (.bool v12)=_ by rw [h13]),
  b_con (pan:=false) (qE g l v2 v14 v15 e14 e15 s16 s17) (by kernel_rfl) rfl rfl rfl rfl,
  trivial⟩ mixed (by kernel_rfl)) (by kernel_rfl) rfl rfl rfl rfl
theorem ziP {w0:World} (l:(List Int)) (a:Int) (g:Int) (D:Int) (N:Nat) (IH:qD w0 N) (v1:Int) (v2:Int) (v5:Bool) (v7:Bool) (v9:Int) (v10:Bool) (v12:Bool) (v14:Int) (v15:Int) (v18:Int) (e1:((drawX (l.drop (a:Int).toNat) (10:Int)).1)=v1) (e2:(posA l (drawX (l.drop (a:Int).toNat) (10:Int)).2)=v2) (e5:((D == (0:Int)))=v5) (e7:(decide (v1<(4:Int)))=v7) (e9:((v1:Int).tmod (2:Int))=v9) (e10:((v9 == (1:Int)))=v10) (e12:(decide (g > (0:Int)))=v12) (e14:((drawX (l.drop (v2:Int).toNat) (17:Int)).1)=v14) (e15:(posA l (drawX (l.drop (v2:Int).toNat) (17:Int)).2)=v15) (e18:(IntKind.i64.wrap (v14 - (8:Int)))=v18) (s3:0≤a∧a≤l.length) (s4:l.length<9223372036854775807) (h6:v5=false) (h8:v7=true) (h11:v10=true) (h13:v12=false) (s16:0≤v2∧v2≤l.length) (s17:l.length<9223372036854775807):BFun false (KN w0) Tryd.prog 55 [.o (.c (.p 0 0)),.o (.c (.d (pI g))),.o (.c (.d (pI D)))] [(79,[.d (pLs cI l),.d (pI a)])] (.o (.g [.d (pV (.int .i64 1)),.d (pI v18),.d (pV (.slice none 0 0))])) [(79,[.d (pLs cI l),.d (pI v15)])] :=
 con_b (pan:=false) (zl (F:=FL [pLs cI l,pI a,pI g,pI D,pI v1,pI v2,pB v5,pB v7,pI v9,pB v10,pB v12,pI v14,pI v15,pI v18] []) (C:=[(1000002,.call ⟨72,[.o (.c (.p 900 0)),.o (.c (.k (.int .i64 10)))],[.bx 900 79 [.h 0,.h 1]],.o (.c (.h 4)),[.bx 900 79 [.h 0,.h 5]]⟩),
  (1000005,.bin .eql 3 (LF (.h 3)) (LF (.k (.int .i64 0))) (LF (.h 6))),
  (10006,.fb 6 false),
  (1000008,.bin .lss 3 (LF (.h 4)) (LF (.k (.int .i64 4))) (LF (.h 7))),
  (10007,.fb 7 true),
  (1000011,.bin .rem 3 (LF (.h 4)) (LF (.k (.int .i64 2))) (LF (.h 8))),
  (1000012,.bin .eql 3 (LF (.h 8)) (LF (.k (.int .i64 1))) (LF (.h 9))),
  (10009,.fb 9 true),
  (1000015,.bin .gtr 3 (LF (.h 2)) (LF (.k (.int .i64 0))) (LF (.h 10))),
  (10010,.fb 10 false),
  (1000018,.call ⟨72,[.o (.c (.p 900 0)),.o (.c (.k (.int .i64 17)))],[.bx 900 79 [.h 0,.h 5]],.o (.c (.h 11)),[.bx 900 79 [.h 0,.h 12]]⟩),
  (1000019,.bin .sub 3 (LF (.h 11)) (LF (.k (.int .i64 8))) (LF (.h 13)))]) (k:=⟨55,[.o (.c (.p 900 0)),.o (.c (.h 2)),.o (.c (.h 3))],[.bx 900 79 [.h 0,.h 1]],.o (.g [.k (.int .i64 1),.h 13,.k (.slice none 0 0)]),[.bx 900 79 [.h 0,.h 12]]⟩) 0 (zi ⟨(ze zf),zb rfl,zb rfl,zb rfl,zb rfl,zb rfl,zb rfl,zb rfl,zb rfl,zb rfl,zb rfl,zb rfl,zb rfl,zb rfl,trivial⟩) ⟨b_con (pan:=false) (qE (10:Int) l a v1 v2 e1 e2 s3 s4) (by kernel_rfl) rfl rfl rfl rfl,
  e_bin (za rfl) zc (za rfl) (r_cmp (congrArg some e5)),
  e_fb (show pV (.bool v5)=_ by rw [h6]),
  e_bin (za rfl) zc (za rfl) (r_cmp (congrArg some e7)),
  e_fb (show pV (.bool v7)=_ by rw [h8]),
  e_bin (za rfl) zc (za rfl) (r_ar ((zU (by decide)).trans (congrArg some e9))),
  e_bin (za rfl) zc (za rfl) (r_cmp (congrArg some e10)),
  e_fb (show pV (.bool v10)=_ by rw [h11]),
  e_bin (za rfl) zc (za rfl) (r_cmp (congrArg some e12)),
  e_fb (show pV (.bool v12)=_ by rw [h13]),
  b_con (pan:=false) (qE (17:Int) l v2 v14 v15 e14 e15 s16 s17) (by kernel_rfl) rfl rfl rfl rfl,
  e_bin (za rfl) zc (za rfl) (r_ar (congrArg some e18)),
  trivial⟩ mixed (by kernel_rfl)) (by kernel_rfl) rfl rfl rfl rfl
theorem ziQ {w0:World} (l:(List Int)) (a:Int) (g:Int) (D:Int) (N:Nat) (IH:qD w0 N) (v1:Int) (v2:Int) (v5:Bool) (v7:Bool) (v9:Int) (v10:Bool) (v12:Int) (v13:Int) (v16:Int) (e1:((drawX (l.drop (a:Int).toNat) (10:Int)).1)=v1) (e2:(posA l (drawX (l.drop (a:Int).toNat) (10:Int)).2)=v2) (e5:((D == (0:Int)))=v5) (e7:(decide (v1<(4:Int)))=v7) (e9:((v1:Int).tmod (2:Int))=v9) (e10:((v9 == (1:Int)))=v10) (e12:((drawX (l.drop (v2:Int).toNat) (17:Int)).1)=v12) (e13:(posA l (drawX (l.drop (v2:Int).toNat) (17:Int)).2)=v13) (e16:(IntKind.i64.wrap (v12 - (8:Int)))=v16) (s3:0≤a∧a≤l.length) (s4:l.length<9223372036854775807) (h6:v5=false) (h8:v7=true) (h11:v10=false) (s14:0≤v2∧v2≤l.length) (s15:l.length<9223372036854775807):BFun false (KN w0) Tryd.prog 55 [.o (.c (.p 0 0)),.o (.c (.d (pI g))),.o (.c (.d (pI D)))] [(79,[.d (pLs cI l),.d (pI a)])] (.o (.g [.d (pV (.int .i64 1)),.d (pI v16),.d (pV (.slice none 0 0))])) [(79,[.d (pLs cI l),.d (pI v13)])] :=
 con_b (pan:=false) (zl (F:=FL [pLs cI l,pI a,pI g,pI D,pI v1,pI v2,pB v5,pB v7,pI v9,pB v10,pI v12,pI v13,pI v16] []) (C:=[(1000002,.call ⟨72,[.o (.c (.p 900 0)),.o (.c (.k (.int .i64 10)))],[.bx 900 79 [.h 0,.h 1]],.o (.c (.h 4)),[.bx 900 79 [.h 0,.h 5]]⟩),
  (1000005,.bin .eql 3 (LF (.h 3)) (LF (.k (.int .i64 0))) (LF (.h 6))),
  (10006,.fb 6 false),
  (1000008,.bin .lss 3 (LF (.h 4)) (LF (.k (.int .i64 4))) (LF (.h 7))),
  (10007,.fb 7 true),
  (1000011,.bin .rem 3 (LF (.h 4)) (LF (.k (.int .i64 2))) (LF (.h 8))),
  (1000012,.bin .eql 3 (LF (.h 8)) (LF (.k (.int .i64 1))) (LF (.h 9))),
  (10009,.fb 9 false),
  (1000018,.call ⟨72,[.o (.c (.p 900 0)),.o (.c (.k (.int .i64 17)))],[.bx 900 79 [.h 0,.h 5]],.o (.c (.h 10)),[.bx 900 79 [.h 0,.h 11]]⟩),
  (1000019,.bin .sub 3 (LF (.h 10)) (LF (.k (.int .i64 8))) (LF (.h 12)))]) (k:=⟨55,[.o (.c (.p 900 0)),.o (.c (.h 2)),.o (.c (.h 3))],[.bx 900 79 [.h 0,.h 1]],.o (.g [.k (.int .i64 1),.h 12,.k (.slice none 0 0)]),[.bx 900 79 [.h 0,.h 11]]⟩) 0 (zi ⟨(ze zf),zb rfl,zb rfl,zb rfl,zb rfl,zb rfl,zb rfl,zb rfl,zb rfl,zb rfl,zb rfl,zb rfl,zb rfl,trivial⟩) ⟨b_con (pan:=false) (qE (10:Int) l a v1 v2 e1 e2 s3 s4) (by kernel_rfl) rfl rfl rfl rfl,
  e_bin (za rfl) zc (za rfl) (r_cmp (congrArg some e5)),
  e_fb (show pV (.bool v5)=_ by rw [h6]),
  e_bin (za rfl) zc (za rfl) (r_cmp (congrArg some e7)),
  e_fb (show pV (.bool v7)=_ by rw [h8]),
  e_bin (za rfl) zc (za rfl) (r_ar ((zU (by decide)).trans (congrArg some e9))),
  e_bin (za rfl) zc (za rfl) (r_cmp (congrArg some e10)),
  e_fb (show pV (.bool v10)=_ by rw [h11]),
  b_con (pan:=false) (qE (17:Int) l v2 v12 v13 e12 e13 s14 s15) (by kernel_rfl) rfl rfl rfl rfl,
  e_bin (za rfl) zc (za rfl) (r_ar (congrArg some e16)),
  trivial⟩ mixed (by kernel_rfl)) (by kernel_rfl) rfl rfl rfl rfl
theorem ziR {w0:World} (l:(List Int)) (a:Int) (g:Int) (D:Int) (N:Nat) (IH:qD w0 N) (v1:Int) (v2:Int) (v5:Bool) (v7:Bool) (v9:Int) (v10:Int) (v13:Int) (v14:Int) (v15:Xp) (v16:Int) (v21:Int) (v22:Xp) (v23:Int) (v28:(List Xp)) (e1:((drawX (l.drop (a:Int).toNat) (10:Int)).1)=v1) (e2:(posA l (drawX (l.drop (a:Int).toNat) (10:Int)).2)=v2) (e5:((D == (0:Int)))=v5) (e7:(decide (v1<(4:Int)))=v7) (e9:((drawX (l.drop (v2:Int).toNat) (5:Int)).1)=v9) (e10:(posA l (drawX (l.drop (v2:Int).toNat) (5:Int)).2)=v10) (e13:(IntKind.i64.wrap ((3:Int)+v9))=v13) (e14:(IntKind.i64.wrap (D - (1:Int)))=v14) (e15:((madeX g (v14:Int).toNat (l.drop (v10:Int).toNat)).1)=v15) (e16:(posA l (madeX g (v14:Int).toNat (l.drop (v10:Int).toNat)).2)=v16) (e21:(IntKind.i64.wrap (D - (1:Int)))=v21) (e22:((madeX g (v21:Int).toNat (l.drop (v16:Int).toNat)).1)=v22) (e23:(posA l (madeX g (v21:Int).toNat (l.drop (v16:Int).toNat)).2)=v23) (e28:(([v15,v22]:List Xp))=v28) (s3:0≤a∧a≤l.length) (s4:l.length<9223372036854775807) (h6:v5=false) (h8:v7=false) (s11:0≤v2∧v2≤l.length) (s12:l.length<9223372036854775807) (s17:0≤v14∧(v14:Int).toNat<N) (s18:0≤g∧g≤4) (s19:0≤v10∧v10≤l.length) (s20:l.length<9223372036854775807) (s24:0≤v21∧(v21:Int).toNat<N) (s25:0≤g∧g≤4) (s26:0≤v16∧v16≤l.length) (s27:l.length<9223372036854775807):BFun false (KN w0) Tryd.prog 55 [.o (.c (.p 0 0)),.o (.c (.d (pI g))),.o (.c (.d (pI D)))] [(79,[.d (pLs cI l),.d (pI a)])] (.o (.g [.d (pI v13),.d (pV (.int .i64 0)),.d (pLs cE v28)])) [(79,[.d (pLs cI l),.d (pI v23)])] :=
 con_b (pan:=false) (zl (F:=FL [pLs cI l,pI a,pI g,pI D,pI v1,pI v2,pB v5,pB v7,pI v9,pI v10,pI v13,pI v14,pI v15.op,pI v15.n,pLs cE v15.l,pI v16,pI v21,pI v22.op,pI v22.n,pLs cE v22.l,pI v23,pLs cE v28] []) (C:=[(1000002,.call ⟨72,[.o (.c (.p 900 0)),.o (.c (.k (.int .i64 10)))],[.bx 900 79 [.h 0,.h 1]],.o (.c (.h 4)),[.bx 900 79 [.h 0,.h 5]]⟩),
  (1000005,.bin .eql 3 (LF (.h 3)) (LF (.k (.int .i64 0))) (LF (.h 6))),
  (10006,.fb 6 false),
  (1000008,.bin .lss 3 (LF (.h 4)) (LF (.k (.int .i64 4))) (LF (.h 7))),
  (10007,.fb 7 false),
  (1000011,.call ⟨72,[.o (.c (.p 900 0)),.o (.c (.k (.int .i64 5)))],[.bx 900 79 [.h 0,.h 5]],.o (.c (.h 8)),[.bx 900 79 [.h 0,.h 9]]⟩),
  (1000012,.bin .add 3 (LF (.k (.int .i64 3))) (LF (.h 8)) (LF (.h 10))),
  (1000017,.bin .sub 3 (LF (.h 3)) (LF (.k (.int .i64 1))) (LF (.h 11))),
  (1000018,.call ⟨55,[.o (.c (.p 900 0)),.o (.c (.h 2)),.o (.c (.h 11))],[.bx 900 79 [.h 0,.h 9]],.o (.g [.h 12,.h 13,.h 14]),[.bx 900 79 [.h 0,.h 15]]⟩),
  (1000024,.bin .sub 3 (LF (.h 3)) (LF (.k (.int .i64 1))) (LF (.h 16))),
  (1000025,.call ⟨55,[.o (.c (.p 900 0)),.o (.c (.h 2)),.o (.c (.h 16))],[.bx 900 79 [.h 0,.h 15]],.o (.g [.h 17,.h 18,.h 19]),[.bx 900 79 [.h 0,.h 20]]⟩),
  (1000031,.dat 31 2 [.h 12,.h 13,.h 14,.h 17,.h 18,.h 19] 21)]) (k:=⟨55,[.o (.c (.p 900 0)),.o (.c (.h 2)),.o (.c (.h 3))],[.bx 900 79 [.h 0,.h 1]],.o (.g [.h 10,.k (.int .i64 0),.h 21]),[.bx 900 79 [.h 0,.h 20]]⟩) 0 (zi ⟨(ze zf),zb rfl,zb rfl,zb rfl,zb rfl,zb rfl,zb rfl,zb rfl,zb rfl,zb rfl,zb rfl,zb rfl,zb rfl,zb rfl,(ze (zh rfl)),zb rfl,zb rfl,zb rfl,zb rfl,(ze (zh rfl)),zb rfl,(ze (zh rfl)),trivial⟩) ⟨b_con (pan:=false) (qE (10:Int) l a v1 v2 e1 e2 s3 s4) (by kernel_rfl) rfl rfl rfl rfl,
  e_bin (za rfl) zc (za rfl) (r_cmp (congrArg some e5)),
  e_fb (show pV (.bool v5)=_ by rw [h6]),
  e_bin (za rfl) zc (za rfl) (r_cmp (congrArg some e7)),
  e_fb (show pV (.bool v7)=_ by rw [h8]),
  b_con (pan:=false) (qE (5:Int) l v2 v9 v10 e9 e10 s11 s12) (by kernel_rfl) rfl rfl rfl rfl,
  e_bin zc (za rfl) (za rfl) (r_ar (congrArg some e13)),
  e_bin (za rfl) zc (za rfl) (r_ar (congrArg some e14)),
  b_con (pan:=false) (IH g v14 l v10 v15 v16 e15 e16 s17 s18 s19 s20) (by kernel_rfl) rfl rfl rfl rfl,
  e_bin (za rfl) zc (za rfl) (r_ar (congrArg some e21)),
  b_con (pan:=false) (IH g v21 l v16 v22 v23 e22 e23 s24 s25 s26 s27) (by kernel_rfl) rfl rfl rfl rfl,
  e_dat (c:=cE) (ps:=(pI v15.op::pI v15.n::pLs cE v15.l::pI v22.op::pI v22.n::pLs cE v22.l::[])) (qs:=(pI v15.op::pI v15.n::pLs cE v15.l::pI v22.op::pI v22.n::pLs cE v22.l::[])) (by rw [← e28];rfl) rfl rfl ((flatE _).trans rfl) (pimps (fun _ _ _ h=>h) <| pimps (fun _ _ _ h=>h) <| pimps (fun _ _ _ h=>h) <| pimps (fun _ _ _ h=>h) <| pimps (fun _ _ _ h=>h) <| pimps (fun _ _ _ h=>h) <| zap) rfl,
  trivial⟩ mixed (by kernel_rfl)) (by kernel_rfl) rfl rfl rfl rfl
theorem zjU {w0:World} {N:Nat} (IH:qD w0 N) (g D:Int) (l:List Int) (a:Int) (e:Xp) (p:Int) (he:(madeX g D.toNat (l.drop a.toNat)).1=e) (hp:posA l (madeX g D.toNat (l.drop a.toNat)).2=p) (hD:0≤D∧D.toNat<N+1) (hg:0≤g∧g≤4) (ha:0≤a∧a≤l.length) (hl:l.length<9223372036854775807) (hN:N≤1000):BFun false (KN w0) Tryd.prog 55 [.o (.c (.p 0 0)),.o (.c (.d (pI g))),.o (.c (.d (pI D)))] [(79,[.d (pLs cI l),.d (pI a)])] (.o (.g [.d (pI e.op),.d (pI e.n),.d (pLs cE e.l)])) [(79,[.d (pLs cI l),.d (pI p)])]:=by
 obtain ⟨v1,e1⟩:∃v,((drawX (l.drop (a:Int).toNat) (10:Int)).1)=v:=⟨_,rfl⟩
 obtain ⟨v2,e2⟩:∃v,(posA l (drawX (l.drop (a:Int).toNat) (10:Int)).2)=v:=⟨_,rfl⟩
 have s3:0≤a∧a≤l.length:=by exact ha
 have s4:l.length<9223372036854775807:=by exact hl
 obtain ⟨v5,e5⟩:∃v,((D == (0:Int)))=v:=⟨_,rfl⟩
 cases h6:v5 with
 | true =>
  obtain ⟨v7,e7⟩:∃v,((v1:Int).tmod (2:Int))=v:=⟨_,rfl⟩
  obtain ⟨v8,e8⟩:∃v,((v7 == (1:Int)))=v:=⟨_,rfl⟩
  cases h9:v8 with
  | true =>
   obtain ⟨v10,e10⟩:∃v,(decide (g > (0:Int)))=v:=⟨_,rfl⟩
   cases h11:v10 with
   | true =>
    obtain ⟨v12,e12⟩:∃v,((drawX (l.drop (v2:Int).toNat) g).1)=v:=⟨_,rfl⟩
    obtain ⟨v13,e13⟩:∃v,(posA l (drawX (l.drop (v2:Int).toNat) g).2)=v:=⟨_,rfl⟩
    have s14:0≤v2∧v2≤l.length:=by (have dh6:=eq_of_beq (e5.trans h6);have dh9:=eq_of_beq (e8.trans h9);have dh11:=of_decide_eq_true (e10.trans h11);have rv1:0≤v1∧v1<10:=(e1 ▸ zq (by omega) (by omega));have sv2:=zz ((zn _ _).trans (List.drop_suffix _ _)) e2;have qv7:v7=v1%2:=(by rw [← e7,Int.tmod_eq_emod_of_nonneg (by omega)]);have rv12:0≤v12∧v12<g:=(e12 ▸ zq (by omega) (by omega));have sv13:=zz ((zn _ _).trans (List.drop_suffix _ _)) e13;exact sv2.2)
    have s15:l.length<9223372036854775807:=by exact hl
    have r0:e=(Xp.mk (2:Int) v12 []):=by
     (have dh6:=eq_of_beq (e5.trans h6);have dh9:=eq_of_beq (e8.trans h9);have dh11:=of_decide_eq_true (e10.trans h11);have rv1:0≤v1∧v1<10:=(e1 ▸ zq (by omega) (by omega));have sv2:=zz ((zn _ _).trans (List.drop_suffix _ _)) e2;have qv7:v7=v1%2:=(by rw [← e7,Int.tmod_eq_emod_of_nonneg (by omega)]);have rv12:0≤v12∧v12<g:=(e12 ▸ zq (by omega) (by omega));have sv13:=zz ((zn _ _).trans (List.drop_suffix _ _)) e13;have z:=zbW (g:=g) (D:=D) (L:=l.drop a.toNat) (by rw [e1];omega) (by rw [e1];omega) (by omega);rw [z,← sv2.1] at he hp;first | (rw [← hp];exact e13) | (rw [e12] at he;rw [← he]))
    have r1:p=v13:=by
     (have dh6:=eq_of_beq (e5.trans h6);have dh9:=eq_of_beq (e8.trans h9);have dh11:=of_decide_eq_true (e10.trans h11);have rv1:0≤v1∧v1<10:=(e1 ▸ zq (by omega) (by omega));have sv2:=zz ((zn _ _).trans (List.drop_suffix _ _)) e2;have qv7:v7=v1%2:=(by rw [← e7,Int.tmod_eq_emod_of_nonneg (by omega)]);have rv12:0≤v12∧v12<g:=(e12 ▸ zq (by omega) (by omega));have sv13:=zz ((zn _ _).trans (List.drop_suffix _ _)) e13;have z:=zbW (g:=g) (D:=D) (L:=l.drop a.toNat) (by rw [e1];omega) (by rw [e1];omega) (by omega);rw [z,← sv2.1] at he hp;first | (rw [← hp];exact e13) | (rw [e12] at he;rw [← he]))
    rw [r0,r1];exact BFun.imp (ziL l a g D N IH v1 v2 v5 v7 v8 v10 v12 v13 e1 e2 e5 e7 e8 e10 e12 e13 s3 s4 h6 h9 h11 s14 s15) (zaE) (fun _ _ _ h=>h)
   | false =>
    obtain ⟨v12,e12⟩:∃v,((drawX (l.drop (v2:Int).toNat) (17:Int)).1)=v:=⟨_,rfl⟩
    obtain ⟨v13,e13⟩:∃v,(posA l (drawX (l.drop (v2:Int).toNat) (17:Int)).2)=v:=⟨_,rfl⟩
    have s14:0≤v2∧v2≤l.length:=by (have dh6:=eq_of_beq (e5.trans h6);have dh9:=eq_of_beq (e8.trans h9);have dh11:=of_decide_eq_false (e10.trans h11);have rv1:0≤v1∧v1<10:=(e1 ▸ zq (by omega) (by omega));have sv2:=zz ((zn _ _).trans (List.drop_suffix _ _)) e2;have qv7:v7=v1%2:=(by rw [← e7,Int.tmod_eq_emod_of_nonneg (by omega)]);have rv12:0≤v12∧v12<17:=(e12 ▸ zq (by omega) (by omega));have sv13:=zz ((zn _ _).trans (List.drop_suffix _ _)) e13;exact sv2.2)
    have s15:l.length<9223372036854775807:=by exact hl
    obtain ⟨v16,e16⟩:∃v,(IntKind.i64.wrap (v12 - (8:Int)))=v:=⟨_,rfl⟩
    have r0:e=(Xp.mk (1:Int) v16 []):=by
     (have dh6:=eq_of_beq (e5.trans h6);have dh9:=eq_of_beq (e8.trans h9);have dh11:=of_decide_eq_false (e10.trans h11);have rv1:0≤v1∧v1<10:=(e1 ▸ zq (by omega) (by omega));have sv2:=zz ((zn _ _).trans (List.drop_suffix _ _)) e2;have qv7:v7=v1%2:=(by rw [← e7,Int.tmod_eq_emod_of_nonneg (by omega)]);have rv12:0≤v12∧v12<17:=(e12 ▸ zq (by omega) (by omega));have sv13:=zz ((zn _ _).trans (List.drop_suffix _ _)) e13;have qv16:v16=v12 - 8:=(by rw [← e16,wri (by omega)]);have z:=zah (g:=g) (D:=D) (L:=l.drop a.toNat) (by rw [e1];omega) (by rw [e1];omega);rw [z,← sv2.1] at he hp;first | (rw [← hp];exact e13) | (rw [e12] at he;rw [← he,← qv16]))
    have r1:p=v13:=by
     (have dh6:=eq_of_beq (e5.trans h6);have dh9:=eq_of_beq (e8.trans h9);have dh11:=of_decide_eq_false (e10.trans h11);have rv1:0≤v1∧v1<10:=(e1 ▸ zq (by omega) (by omega));have sv2:=zz ((zn _ _).trans (List.drop_suffix _ _)) e2;have qv7:v7=v1%2:=(by rw [← e7,Int.tmod_eq_emod_of_nonneg (by omega)]);have rv12:0≤v12∧v12<17:=(e12 ▸ zq (by omega) (by omega));have sv13:=zz ((zn _ _).trans (List.drop_suffix _ _)) e13;have qv16:v16=v12 - 8:=(by rw [← e16,wri (by omega)]);have z:=zah (g:=g) (D:=D) (L:=l.drop a.toNat) (by rw [e1];omega) (by rw [e1];omega);rw [z,← sv2.1] at he hp;first | (rw [← hp];exact e13) | (rw [e12] at he;rw [← he,← qv16]))
    rw [r0,r1];exact BFun.imp (ziM l a g D N IH v1 v2 v5 v7 v8 v10 v12 v13 v16 e1 e2 e5 e7 e8 e10 e12 e13 e16 s3 s4 h6 h9 h11 s14 s15) (zaE) (fun _ _ _ h=>h)
  | false =>
   obtain ⟨v10,e10⟩:∃v,((drawX (l.drop (v2:Int).toNat) (17:Int)).1)=v:=⟨_,rfl⟩
   obtain ⟨v11,e11⟩:∃v,(posA l (drawX (l.drop (v2:Int).toNat) (17:Int)).2)=v:=⟨_,rfl⟩
   have s12:0≤v2∧v2≤l.length:=by (have dh6:=eq_of_beq (e5.trans h6);have dh9:=ne_of_beq_false (e8.trans h9);have rv1:0≤v1∧v1<10:=(e1 ▸ zq (by omega) (by omega));have sv2:=zz ((zn _ _).trans (List.drop_suffix _ _)) e2;have qv7:v7=v1%2:=(by rw [← e7,Int.tmod_eq_emod_of_nonneg (by omega)]);have rv10:0≤v10∧v10<17:=(e10 ▸ zq (by omega) (by omega));have sv11:=zz ((zn _ _).trans (List.drop_suffix _ _)) e11;exact sv2.2)
   have s13:l.length<9223372036854775807:=by exact hl
   obtain ⟨v14,e14⟩:∃v,(IntKind.i64.wrap (v10 - (8:Int)))=v:=⟨_,rfl⟩
   have r0:e=(Xp.mk (1:Int) v14 []):=by
    (have dh6:=eq_of_beq (e5.trans h6);have dh9:=ne_of_beq_false (e8.trans h9);have rv1:0≤v1∧v1<10:=(e1 ▸ zq (by omega) (by omega));have sv2:=zz ((zn _ _).trans (List.drop_suffix _ _)) e2;have qv7:v7=v1%2:=(by rw [← e7,Int.tmod_eq_emod_of_nonneg (by omega)]);have rv10:0≤v10∧v10<17:=(e10 ▸ zq (by omega) (by omega));have sv11:=zz ((zn _ _).trans (List.drop_suffix _ _)) e11;have qv14:v14=v10 - 8:=(by rw [← e14,wri (by omega)]);have z:=zah (g:=g) (D:=D) (L:=l.drop a.toNat) (by rw [e1];omega) (by rw [e1];omega);rw [z,← sv2.1] at he hp;first | (rw [← hp];exact e11) | (rw [e10] at he;rw [← he,← qv14]))
   have r1:p=v11:=by
    (have dh6:=eq_of_beq (e5.trans h6);have dh9:=ne_of_beq_false (e8.trans h9);have rv1:0≤v1∧v1<10:=(e1 ▸ zq (by omega) (by omega));have sv2:=zz ((zn _ _).trans (List.drop_suffix _ _)) e2;have qv7:v7=v1%2:=(by rw [← e7,Int.tmod_eq_emod_of_nonneg (by omega)]);have rv10:0≤v10∧v10<17:=(e10 ▸ zq (by omega) (by omega));have sv11:=zz ((zn _ _).trans (List.drop_suffix _ _)) e11;have qv14:v14=v10 - 8:=(by rw [← e14,wri (by omega)]);have z:=zah (g:=g) (D:=D) (L:=l.drop a.toNat) (by rw [e1];omega) (by rw [e1];omega);rw [z,← sv2.1] at he hp;first | (rw [← hp];exact e11) | (rw [e10] at he;rw [← he,← qv14]))
   rw [r0,r1];exact BFun.imp (ziN l a g D N IH v1 v2 v5 v7 v8 v10 v11 v14 e1 e2 e5 e7 e8 e10 e11 e14 s3 s4 h6 h9 s12 s13) (zaE) (fun _ _ _ h=>h)
 | false =>
  obtain ⟨v7,e7⟩:∃v,(decide (v1<(4:Int)))=v:=⟨_,rfl⟩
  cases h8:v7 with
  | true =>
   obtain ⟨v9,e9⟩:∃v,((v1:Int).tmod (2:Int))=v:=⟨_,rfl⟩
   obtain ⟨v10,e10⟩:∃v,((v9 == (1:Int)))=v:=⟨_,rfl⟩
   cases h11:v10 with
   | true =>
    obtain ⟨v12,e12⟩:∃v,(decide (g > (0:Int)))=v:=⟨_,rfl⟩
    cases h13:v12 with
    | true =>
     obtain ⟨v14,e14⟩:∃v,((drawX (l.drop (v2:Int).toNat) g).1)=v:=⟨_,rfl⟩
     obtain ⟨v15,e15⟩:∃v,(posA l (drawX (l.drop (v2:Int).toNat) g).2)=v:=⟨_,rfl⟩
     have s16:0≤v2∧v2≤l.length:=by (have dh6:=ne_of_beq_false (e5.trans h6);have dh8:=of_decide_eq_true (e7.trans h8);have dh11:=eq_of_beq (e10.trans h11);have dh13:=of_decide_eq_true (e12.trans h13);have rv1:0≤v1∧v1<10:=(e1 ▸ zq (by omega) (by omega));have sv2:=zz ((zn _ _).trans (List.drop_suffix _ _)) e2;have qv9:v9=v1%2:=(by rw [← e9,Int.tmod_eq_emod_of_nonneg (by omega)]);have rv14:0≤v14∧v14<g:=(e14 ▸ zq (by omega) (by omega));have sv15:=zz ((zn _ _).trans (List.drop_suffix _ _)) e15;exact sv2.2)
     have s17:l.length<9223372036854775807:=by exact hl
     have r0:e=(Xp.mk (2:Int) v14 []):=by
      (have dh6:=ne_of_beq_false (e5.trans h6);have dh8:=of_decide_eq_true (e7.trans h8);have dh11:=eq_of_beq (e10.trans h11);have dh13:=of_decide_eq_true (e12.trans h13);have rv1:0≤v1∧v1<10:=(e1 ▸ zq (by omega) (by omega));have sv2:=zz ((zn _ _).trans (List.drop_suffix _ _)) e2;have qv9:v9=v1%2:=(by rw [← e9,Int.tmod_eq_emod_of_nonneg (by omega)]);have rv14:0≤v14∧v14<g:=(e14 ▸ zq (by omega) (by omega));have sv15:=zz ((zn _ _).trans (List.drop_suffix _ _)) e15;have z:=zbW (g:=g) (D:=D) (L:=l.drop a.toNat) (by rw [e1];omega) (by rw [e1];omega) (by omega);rw [z,← sv2.1] at he hp;first | (rw [← hp];exact e15) | (rw [e14] at he;rw [← he]))
     have r1:p=v15:=by
      (have dh6:=ne_of_beq_false (e5.trans h6);have dh8:=of_decide_eq_true (e7.trans h8);have dh11:=eq_of_beq (e10.trans h11);have dh13:=of_decide_eq_true (e12.trans h13);have rv1:0≤v1∧v1<10:=(e1 ▸ zq (by omega) (by omega));have sv2:=zz ((zn _ _).trans (List.drop_suffix _ _)) e2;have qv9:v9=v1%2:=(by rw [← e9,Int.tmod_eq_emod_of_nonneg (by omega)]);have rv14:0≤v14∧v14<g:=(e14 ▸ zq (by omega) (by omega));have sv15:=zz ((zn _ _).trans (List.drop_suffix _ _)) e15;have z:=zbW (g:=g) (D:=D) (L:=l.drop a.toNat) (by rw [e1];omega) (by rw [e1];omega) (by omega);rw [z,← sv2.1] at he hp;first | (rw [← hp];exact e15) | (rw [e14] at he;rw [← he]))
     rw [r0,r1];exact BFun.imp (ziO l a g D N IH v1 v2 v5 v7 v9 v10 v12 v14 v15 e1 e2 e5 e7 e9 e10 e12 e14 e15 s3 s4 h6 h8 h11 h13 s16 s17) (zaE) (fun _ _ _ h=>h)
    | false =>
     obtain ⟨v14,e14⟩:∃v,((drawX (l.drop (v2:Int).toNat) (17:Int)).1)=v:=⟨_,rfl⟩
     obtain ⟨v15,e15⟩:∃v,(posA l (drawX (l.drop (v2:Int).toNat) (17:Int)).2)=v:=⟨_,rfl⟩
     have s16:0≤v2∧v2≤l.length:=by (have dh6:=ne_of_beq_false (e5.trans h6);have dh8:=of_decide_eq_true (e7.trans h8);have dh11:=eq_of_beq (e10.trans h11);have dh13:=of_decide_eq_false (e12.trans h13);have rv1:0≤v1∧v1<10:=(e1 ▸ zq (by omega) (by omega));have sv2:=zz ((zn _ _).trans (List.drop_suffix _ _)) e2;have qv9:v9=v1%2:=(by rw [← e9,Int.tmod_eq_emod_of_nonneg (by omega)]);have rv14:0≤v14∧v14<17:=(e14 ▸ zq (by omega) (by omega));have sv15:=zz ((zn _ _).trans (List.drop_suffix _ _)) e15;exact sv2.2)
     have s17:l.length<9223372036854775807:=by exact hl
     obtain ⟨v18,e18⟩:∃v,(IntKind.i64.wrap (v14 - (8:Int)))=v:=⟨_,rfl⟩
     have r0:e=(Xp.mk (1:Int) v18 []):=by
      (have dh6:=ne_of_beq_false (e5.trans h6);have dh8:=of_decide_eq_true (e7.trans h8);have dh11:=eq_of_beq (e10.trans h11);have dh13:=of_decide_eq_false (e12.trans h13);have rv1:0≤v1∧v1<10:=(e1 ▸ zq (by omega) (by omega));have sv2:=zz ((zn _ _).trans (List.drop_suffix _ _)) e2;have qv9:v9=v1%2:=(by rw [← e9,Int.tmod_eq_emod_of_nonneg (by omega)]);have rv14:0≤v14∧v14<17:=(e14 ▸ zq (by omega) (by omega));have sv15:=zz ((zn _ _).trans (List.drop_suffix _ _)) e15;have qv18:v18=v14 - 8:=(by rw [← e18,wri (by omega)]);have z:=zah (g:=g) (D:=D) (L:=l.drop a.toNat) (by rw [e1];omega) (by rw [e1];omega);rw [z,← sv2.1] at he hp;first | (rw [← hp];exact e15) | (rw [e14] at he;rw [← he,← qv18]))
     have r1:p=v15:=by
      (have dh6:=ne_of_beq_false (e5.trans h6);have dh8:=of_decide_eq_true (e7.trans h8);have dh11:=eq_of_beq (e10.trans h11);have dh13:=of_decide_eq_false (e12.trans h13);have rv1:0≤v1∧v1<10:=(e1 ▸ zq (by omega) (by omega));have sv2:=zz ((zn _ _).trans (List.drop_suffix _ _)) e2;have qv9:v9=v1%2:=(by rw [← e9,Int.tmod_eq_emod_of_nonneg (by omega)]);have rv14:0≤v14∧v14<17:=(e14 ▸ zq (by omega) (by omega));have sv15:=zz ((zn _ _).trans (List.drop_suffix _ _)) e15;have qv18:v18=v14 - 8:=(by rw [← e18,wri (by omega)]);have z:=zah (g:=g) (D:=D) (L:=l.drop a.toNat) (by rw [e1];omega) (by rw [e1];omega);rw [z,← sv2.1] at he hp;first | (rw [← hp];exact e15) | (rw [e14] at he;rw [← he,← qv18]))
     rw [r0,r1];exact BFun.imp (ziP l a g D N IH v1 v2 v5 v7 v9 v10 v12 v14 v15 v18 e1 e2 e5 e7 e9 e10 e12 e14 e15 e18 s3 s4 h6 h8 h11 h13 s16 s17) (zaE) (fun _ _ _ h=>h)
   | false =>
    obtain ⟨v12,e12⟩:∃v,((drawX (l.drop (v2:Int).toNat) (17:Int)).1)=v:=⟨_,rfl⟩
    obtain ⟨v13,e13⟩:∃v,(posA l (drawX (l.drop (v2:Int).toNat) (17:Int)).2)=v:=⟨_,rfl⟩
    have s14:0≤v2∧v2≤l.length:=by (have dh6:=ne_of_beq_false (e5.trans h6);have dh8:=of_decide_eq_true (e7.trans h8);have dh11:=ne_of_beq_false (e10.trans h11);have rv1:0≤v1∧v1<10:=(e1 ▸ zq (by omega) (by omega));have sv2:=zz ((zn _ _).trans (List.drop_suffix _ _)) e2;have qv9:v9=v1%2:=(by rw [← e9,Int.tmod_eq_emod_of_nonneg (by omega)]);have rv12:0≤v12∧v12<17:=(e12 ▸ zq (by omega) (by omega));have sv13:=zz ((zn _ _).trans (List.drop_suffix _ _)) e13;exact sv2.2)
    have s15:l.length<9223372036854775807:=by exact hl
    obtain ⟨v16,e16⟩:∃v,(IntKind.i64.wrap (v12 - (8:Int)))=v:=⟨_,rfl⟩
    have r0:e=(Xp.mk (1:Int) v16 []):=by
     (have dh6:=ne_of_beq_false (e5.trans h6);have dh8:=of_decide_eq_true (e7.trans h8);have dh11:=ne_of_beq_false (e10.trans h11);have rv1:0≤v1∧v1<10:=(e1 ▸ zq (by omega) (by omega));have sv2:=zz ((zn _ _).trans (List.drop_suffix _ _)) e2;have qv9:v9=v1%2:=(by rw [← e9,Int.tmod_eq_emod_of_nonneg (by omega)]);have rv12:0≤v12∧v12<17:=(e12 ▸ zq (by omega) (by omega));have sv13:=zz ((zn _ _).trans (List.drop_suffix _ _)) e13;have qv16:v16=v12 - 8:=(by rw [← e16,wri (by omega)]);have z:=zah (g:=g) (D:=D) (L:=l.drop a.toNat) (by rw [e1];omega) (by rw [e1];omega);rw [z,← sv2.1] at he hp;first | (rw [← hp];exact e13) | (rw [e12] at he;rw [← he,← qv16]))
    have r1:p=v13:=by
     (have dh6:=ne_of_beq_false (e5.trans h6);have dh8:=of_decide_eq_true (e7.trans h8);have dh11:=ne_of_beq_false (e10.trans h11);have rv1:0≤v1∧v1<10:=(e1 ▸ zq (by omega) (by omega));have sv2:=zz ((zn _ _).trans (List.drop_suffix _ _)) e2;have qv9:v9=v1%2:=(by rw [← e9,Int.tmod_eq_emod_of_nonneg (by omega)]);have rv12:0≤v12∧v12<17:=(e12 ▸ zq (by omega) (by omega));have sv13:=zz ((zn _ _).trans (List.drop_suffix _ _)) e13;have qv16:v16=v12 - 8:=(by rw [← e16,wri (by omega)]);have z:=zah (g:=g) (D:=D) (L:=l.drop a.toNat) (by rw [e1];omega) (by rw [e1];omega);rw [z,← sv2.1] at he hp;first | (rw [← hp];exact e13) | (rw [e12] at he;rw [← he,← qv16]))
    rw [r0,r1];exact BFun.imp (ziQ l a g D N IH v1 v2 v5 v7 v9 v10 v12 v13 v16 e1 e2 e5 e7 e9 e10 e12 e13 e16 s3 s4 h6 h8 h11 s14 s15) (zaE) (fun _ _ _ h=>h)
  | false =>
   obtain ⟨v9,e9⟩:∃v,((drawX (l.drop (v2:Int).toNat) (5:Int)).1)=v:=⟨_,rfl⟩
   obtain ⟨v10,e10⟩:∃v,(posA l (drawX (l.drop (v2:Int).toNat) (5:Int)).2)=v:=⟨_,rfl⟩
   have s11:0≤v2∧v2≤l.length:=by (have dh6:=ne_of_beq_false (e5.trans h6);have dh8:=of_decide_eq_false (e7.trans h8);have rv1:0≤v1∧v1<10:=(e1 ▸ zq (by omega) (by omega));have sv2:=zz ((zn _ _).trans (List.drop_suffix _ _)) e2;have rv9:0≤v9∧v9<5:=(e9 ▸ zq (by omega) (by omega));have sv10:=zz ((zn _ _).trans (List.drop_suffix _ _)) e10;exact sv2.2)
   have s12:l.length<9223372036854775807:=by exact hl
   obtain ⟨v13,e13⟩:∃v,(IntKind.i64.wrap ((3:Int)+v9))=v:=⟨_,rfl⟩
   obtain ⟨v14,e14⟩:∃v,(IntKind.i64.wrap (D - (1:Int)))=v:=⟨_,rfl⟩
   obtain ⟨v15,e15⟩:∃v,((madeX g (v14:Int).toNat (l.drop (v10:Int).toNat)).1)=v:=⟨_,rfl⟩
   obtain ⟨v16,e16⟩:∃v,(posA l (madeX g (v14:Int).toNat (l.drop (v10:Int).toNat)).2)=v:=⟨_,rfl⟩
   have s17:0≤v14∧(v14:Int).toNat<N:=by (have dh6:=ne_of_beq_false (e5.trans h6);have dh8:=of_decide_eq_false (e7.trans h8);have rv1:0≤v1∧v1<10:=(e1 ▸ zq (by omega) (by omega));have sv2:=zz ((zn _ _).trans (List.drop_suffix _ _)) e2;have rv9:0≤v9∧v9<5:=(e9 ▸ zq (by omega) (by omega));have sv10:=zz ((zn _ _).trans (List.drop_suffix _ _)) e10;have qv13:v13=3+v9:=(by rw [← e13,wri (by omega)]);have qv14:v14=D - 1:=(by rw [← e14,wri (by omega)]);have sv16:=zz ((qx _ _ _).trans (List.drop_suffix _ _)) e16;omega)
   have s18:0≤g∧g≤4:=by exact hg
   have s19:0≤v10∧v10≤l.length:=by (have dh6:=ne_of_beq_false (e5.trans h6);have dh8:=of_decide_eq_false (e7.trans h8);have rv1:0≤v1∧v1<10:=(e1 ▸ zq (by omega) (by omega));have sv2:=zz ((zn _ _).trans (List.drop_suffix _ _)) e2;have rv9:0≤v9∧v9<5:=(e9 ▸ zq (by omega) (by omega));have sv10:=zz ((zn _ _).trans (List.drop_suffix _ _)) e10;have qv13:v13=3+v9:=(by rw [← e13,wri (by omega)]);have qv14:v14=D - 1:=(by rw [← e14,wri (by omega)]);have sv16:=zz ((qx _ _ _).trans (List.drop_suffix _ _)) e16;exact sv10.2)
   have s20:l.length<9223372036854775807:=by exact hl
   obtain ⟨v21,e21⟩:∃v,(IntKind.i64.wrap (D - (1:Int)))=v:=⟨_,rfl⟩
   obtain ⟨v22,e22⟩:∃v,((madeX g (v21:Int).toNat (l.drop (v16:Int).toNat)).1)=v:=⟨_,rfl⟩
   obtain ⟨v23,e23⟩:∃v,(posA l (madeX g (v21:Int).toNat (l.drop (v16:Int).toNat)).2)=v:=⟨_,rfl⟩
   have s24:0≤v21∧(v21:Int).toNat<N:=by (have dh6:=ne_of_beq_false (e5.trans h6);have dh8:=of_decide_eq_false (e7.trans h8);have rv1:0≤v1∧v1<10:=(e1 ▸ zq (by omega) (by omega));have sv2:=zz ((zn _ _).trans (List.drop_suffix _ _)) e2;have rv9:0≤v9∧v9<5:=(e9 ▸ zq (by omega) (by omega));have sv10:=zz ((zn _ _).trans (List.drop_suffix _ _)) e10;have qv13:v13=3+v9:=(by rw [← e13,wri (by omega)]);have qv14:v14=D - 1:=(by rw [← e14,wri (by omega)]);have sv16:=zz ((qx _ _ _).trans (List.drop_suffix _ _)) e16;have qv21:v21=D - 1:=(by rw [← e21,wri (by omega)]);have sv23:=zz ((qx _ _ _).trans (List.drop_suffix _ _)) e23;omega)
   have s25:0≤g∧g≤4:=by exact hg
   have s26:0≤v16∧v16≤l.length:=by (have dh6:=ne_of_beq_false (e5.trans h6);have dh8:=of_decide_eq_false (e7.trans h8);have rv1:0≤v1∧v1<10:=(e1 ▸ zq (by omega) (by omega));have sv2:=zz ((zn _ _).trans (List.drop_suffix _ _)) e2;have rv9:0≤v9∧v9<5:=(e9 ▸ zq (by omega) (by omega));have sv10:=zz ((zn _ _).trans (List.drop_suffix _ _)) e10;have qv13:v13=3+v9:=(by rw [← e13,wri (by omega)]);have qv14:v14=D - 1:=(by rw [← e14,wri (by omega)]);have sv16:=zz ((qx _ _ _).trans (List.drop_suffix _ _)) e16;have qv21:v21=D - 1:=(by rw [← e21,wri (by omega)]);have sv23:=zz ((qx _ _ _).trans (List.drop_suffix _ _)) e23;exact sv16.2)
   have s27:l.length<9223372036854775807:=by exact hl
   obtain ⟨v28,e28⟩:∃v,(([v15,v22]:List Xp))=v:=⟨_,rfl⟩
   have r0:e=(Xp.mk v13 (0:Int) v28):=by
    (have dh6:=ne_of_beq_false (e5.trans h6);have dh8:=of_decide_eq_false (e7.trans h8);have rv1:0≤v1∧v1<10:=(e1 ▸ zq (by omega) (by omega));have sv2:=zz ((zn _ _).trans (List.drop_suffix _ _)) e2;have rv9:0≤v9∧v9<5:=(e9 ▸ zq (by omega) (by omega));have sv10:=zz ((zn _ _).trans (List.drop_suffix _ _)) e10;have qv13:v13=3+v9:=(by rw [← e13,wri (by omega)]);have qv14:v14=D - 1:=(by rw [← e14,wri (by omega)]);have sv16:=zz ((qx _ _ _).trans (List.drop_suffix _ _)) e16;have qv21:v21=D - 1:=(by rw [← e21,wri (by omega)]);have sv23:=zz ((qx _ _ _).trans (List.drop_suffix _ _)) e23;have y:v21=v14:=(by omega);subst y;have z:=zhU (g:=g) (D:=D) (L:=l.drop a.toNat) (by omega) (by rw [e1];omega);rw [z,← sv2.1,← sv10.1,← qv21,← sv16.1] at he hp;first | (rw [← hp];exact e23) | (rw [e9,e15,e22,← qv13,e28] at he;exact he.symm))
   have r1:p=v23:=by
    (have dh6:=ne_of_beq_false (e5.trans h6);have dh8:=of_decide_eq_false (e7.trans h8);have rv1:0≤v1∧v1<10:=(e1 ▸ zq (by omega) (by omega));have sv2:=zz ((zn _ _).trans (List.drop_suffix _ _)) e2;have rv9:0≤v9∧v9<5:=(e9 ▸ zq (by omega) (by omega));have sv10:=zz ((zn _ _).trans (List.drop_suffix _ _)) e10;have qv13:v13=3+v9:=(by rw [← e13,wri (by omega)]);have qv14:v14=D - 1:=(by rw [← e14,wri (by omega)]);have sv16:=zz ((qx _ _ _).trans (List.drop_suffix _ _)) e16;have qv21:v21=D - 1:=(by rw [← e21,wri (by omega)]);have sv23:=zz ((qx _ _ _).trans (List.drop_suffix _ _)) e23;have y:v21=v14:=(by omega);subst y;have z:=zhU (g:=g) (D:=D) (L:=l.drop a.toNat) (by omega) (by rw [e1];omega);rw [z,← sv2.1,← sv10.1,← qv21,← sv16.1] at he hp;first | (rw [← hp];exact e23) | (rw [e9,e15,e22,← qv13,e28] at he;exact he.symm))
   rw [r0,r1];exact ziR l a g D N IH v1 v2 v5 v7 v9 v10 v13 v14 v15 v16 v21 v22 v23 v28 e1 e2 e5 e7 e9 e10 e13 e14 e15 e16 e21 e22 e23 e28 s3 s4 h6 h8 s11 s12 s17 s18 s19 s20 s24 s25 s26 s27
theorem zcZ {w0:World}:∀N:Nat,N≤1000→qD w0 N
 | 0,_=>fun g D l a e p he hp hD=>absurd hD.2 (by omega)
 | N+1,h=>fun g D l a e p he hp hD hg ha hl=>zjU (zcZ N (by omega)) g D l a e p he hp hD hg ha hl (by omega)
theorem zk7 {w0:World} (g D:Int) (l:List Int) (a:Int) (e:Xp) (p:Int) (he:(madeX g D.toNat (l.drop a.toNat)).1=e) (hp:posA l (madeX g D.toNat (l.drop a.toNat)).2=p) (hD:0≤D∧D≤10) (hg:0≤g∧g≤4) (ha:0≤a∧a≤l.length) (hl:l.length<9223372036854775807):BFun false (KN w0) Tryd.prog 55 [.o (.c (.p 0 0)),.o (.c (.d (pI g))),.o (.c (.d (pI D)))] [(79,[.d (pLs cI l),.d (pI a)])] (.o (.g [.d (pI e.op),.d (pI e.n),.d (pLs cE e.l)])) [(79,[.d (pLs cI l),.d (pI p)])]:=zcZ 1000 (by omega) g D l a e p he hp (by omega) hg ha hl
def madE (l:List Int):Xp:=(madeX 3 3 l).1
theorem ziz {w0:World} (l:(List Int)) (g:Int) (v1:Int) (v2:Xp) (v3:Int) (e1:((if (4:Int)<g then (4:Int) else g))=v1) (e2:((madeX v1 ((3:Int):Int).toNat (l.drop ((0:Int):Int).toNat)).1)=v2) (e3:(posA l (madeX v1 ((3:Int):Int).toNat (l.drop ((0:Int):Int).toNat)).2)=v3) (s4:0≤(3:Int)∧(3:Int)≤10) (s5:0≤v1∧v1≤4) (s6:0≤(0:Int)∧(0:Int)≤l.length) (s7:l.length<9223372036854775807):Fun (KN w0) Tryd.prog 19 [.o (.c (pLs cI l)),.o (.c (pI g))] (.o (.g [pI v2.op,pI v2.n,pLs cE v2.l])):=
 zj (zl (F:=FL [pLs cI l,pI g,pI v1,pI v2.op,pI v2.n,pLs cE v2.l,pI v3] []) (C:=[(1000005,.op (.min [3,3] 3) [LF (.h 1),LF (.k (.int .i64 4))] [] (LF (.h 2))),
  (1000006,.call ⟨55,[.o (.c (.p 3 0)),.o (.c (.h 2)),.o (.c (.k (.int .i64 3)))],[.bx 3 79 [.h 0,.k (.int .i64 0)]],.o (.g [.h 3,.h 4,.h 5]),[.bx 3 79 [.h 0,.h 6]]⟩)]) (k:=⟨19,[.o (.c (.h 0)),.o (.c (.h 1))],[],.o (.g [.h 3,.h 4,.h 5]),[]⟩) 0 (zi ⟨(ze zf),zb rfl,zb rfl,zb rfl,zb rfl,(ze (zh rfl)),zb rfl,trivial⟩) ⟨e_op2 (za rfl) zc (za rfl) (fun W=>by rw [← e1];exact zK W),
  b_con (pan:=false) (zk7 v1 (3:Int) l (0:Int) v2 v3 e2 e3 s4 s5 s6 s7) (by kernel_rfl) rfl rfl rfl rfl,
  trivial⟩ mixed (by kernel_rfl)) rfl rfl rfl rfl
theorem zE {w0:World} (l:List Int) (g:Int) (e:Xp) (he:madE l=e) (hg:g=3) (hl:l.length<9223372036854775807):Fun (KN w0) Tryd.prog 19 [.o (.c (pLs cI l)),.o (.c (pI g))] (.o (.g [pI e.op,pI e.n,pLs cE e.l])):=by
 obtain ⟨v1,e1⟩:∃v,((if (4:Int)<g then (4:Int) else g))=v:=⟨_,rfl⟩
 obtain ⟨v2,e2⟩:∃v,((madeX v1 ((3:Int):Int).toNat (l.drop ((0:Int):Int).toNat)).1)=v:=⟨_,rfl⟩
 obtain ⟨v3,e3⟩:∃v,(posA l (madeX v1 ((3:Int):Int).toNat (l.drop ((0:Int):Int).toNat)).2)=v:=⟨_,rfl⟩
 have s4:0≤(3:Int)∧(3:Int)≤10:=by omega
 have s5:0≤v1∧v1≤4:=by (rw [hg,if_neg (by decide)] at e1;omega)
 have s6:0≤(0:Int)∧(0:Int)≤l.length:=by omega
 have s7:l.length<9223372036854775807:=by exact hl
 refine Fun.imp (ziz l g v1 v2 v3 e1 e2 e3 s4 s5 s6 s7) (fun _ _ _ h=>h) (fun v W D h=>?_)
 have r0:e=v2:=by
  (rw [hg,if_neg (by decide)] at e1;subst e1;rw [← he,← e2];rfl)
 rw [r0];exact h
end Go.Proofs.YtdkofaajcpcjkaaDoor
namespace Go.Proofs.YtdkofaajcpcjkaaDoor
open Go.RowKit
theorem zoo (e:Xp) (k:Int):occX k e=((e.op == 2 && e.n == k) || occL k e.l):=by cases e;rw [occX];rfl
theorem znN {l:List Xp} {k:Nat} {x:Xp} (h:l[k]?=some x) (n:Int):occL n (l.drop k)=(occX n x || occL n (l.drop (k+1))):=by
 obtain ⟨hlt,rfl⟩:=List.getElem?_eq_some_iff.1 h
 rw [List.drop_eq_getElem_cons hlt,occL]
def znx (w0:World) (N:Nat):Prop:=∀(x:Xp) (a:Int) (v:Bool),occX a x=v→nodes x≤N→Fun (KN w0) Tryd.prog 23 [.o (.g [pI x.op,pI x.n,pLs cE x.l]),.o (.c (pI a))] (.o (.c (pB v)))
structure x_occurs_A_T where
 i:Int
 g:Bool
def znv:List Atom:=[.sl 0 (.o (.g [.h 0,.h 1,.h 2])),.sl 1 (.o (.c (.h 3))),.sl 2 (.o (.c (.p 0 0))),.sl 4 (.o (.c (.k (.bool false)))),.sl 5 (.o (.c (.h 8))),.sl 8 (.o (.c (.p 0 0))),.sl 9 (.o (.c (.h 0))),.sl 10 (.o (.c (.h 4))),.sl 11 (.o (.c (.h 4))),.sl 12 (.o (.c (.p 0 1))),.sl 13 (.o (.c (.h 1))),.sl 14 (.o (.c (.h 3))),.sl 15 (.o (.c (.h 5))),.sl 16 (.o (.c (.h 5))),.sl 17 (.o (.c (.p 0 2))),.sl 18 (.o (.c (.h 2))),.sl 19 (.o (.c (.h 6))),.sl 20 (.o (.c (.h 7))),.bx 0 31 [.h 0,.h 1,.h 2]]
def znB:LoopS:=⟨3,[.sl 0 (.o (.g [.h 0,.h 1,.h 2])),.sl 1 (.o (.c (.h 3))),.sl 2 (.o (.c (.p 0 0))),.sl 4 (.o (.c (.k (.bool false)))),.sl 5 (.o (.c (.h 5))),.sl 8 (.o (.c (.p 0 0))),.sl 9 (.o (.c (.h 0))),.sl 10 (.o (.c (.h 4))),.sl 11 (.o (.c (.h 4))),.sl 12 (.o (.c (.p 0 1))),.sl 13 (.o (.c (.h 1))),.sl 14 (.o (.c (.h 3))),.sl 15 (.o (.c (.h 5))),.sl 16 (.o (.c (.h 5))),.sl 17 (.o (.c (.p 0 2))),.sl 18 (.o (.c (.h 2))),.sl 19 (.o (.c (.h 6))),.sl 20 (.o (.c (.k (.int .i64 0)))),.bx 0 31 [.h 0,.h 1,.h 2]],(.x 0),[.sl 0 (.o (.g [.h 0,.h 1,.h 2])),.sl 1 (.o (.c (.h 3))),.sl 2 (.o (.c (.p 0 0))),.sl 4 (.o (.c (.k (.bool false)))),.sl 5 (.o (.c (.h 7))),.sl 8 (.o (.c (.p 0 0))),.sl 9 (.o (.c (.h 0))),.sl 10 (.o (.c (.h 4))),.sl 11 (.o (.c (.h 4))),.sl 12 (.o (.c (.p 0 1))),.sl 13 (.o (.c (.h 1))),.sl 14 (.o (.c (.h 3))),.sl 15 (.o (.c (.h 5))),.sl 16 (.o (.c (.h 5))),.sl 17 (.o (.c (.p 0 2))),.sl 18 (.o (.c (.h 2))),.sl 19 (.o (.c (.h 6))),.bx 0 31 [.h 0,.h 1,.h 2]]⟩
theorem znY {w0:World} (e:Xp) (a:Int) (N:Nat) (v1:Bool) (v3:Bool) (v4:Int) (IH:znx w0 N) (h2:v1=true) (i:Int) (g:Bool) (v501:Bool) (n503:Nat) (x504:Xp) (v508:Int) (e501:(decide (i<v4))=v501) (e508:(IntKind.i64.wrap (i+(1:Int)))=v508) (h502:v501=true) (s505:i=(n503:Int)) (s506:e.l[n503]?=some x504) (h507:g=true) (i':Int) (g':Bool) (q0:(true)=g') (q1:(v508)=i') (R:Frm) (hR:R.pm=⟨ntOf Tryd.prog 23,[],[]⟩):Goes (KN w0) Tryd.prog R (lp Tryd.prog 23 0) (FL [pI e.op,pI e.n,pLs cE e.l,pI a,pB v1,pB v3,pI v4,pI i,pB g] []) znv .n (FL [pI e.op,pI e.n,pLs cE e.l,pI a,pB v1,pB v3,pI v4,pI i',pB g'] []) znv:=
 goes (x:=.n) (y:=.n) (Fb:=FL [pI e.op,pI e.n,pLs cE e.l,pI a,pB v1,pB v3,pI v4,pI i,pB g,pB v501,pP (cE x504),pI x504.op,pI x504.n,pLs cE x504.l,pI v508] []) (stb:=znv) (tl:=[.sl 0 (.o (.g [.h 0,.h 1,.h 2])),.sl 1 (.o (.c (.h 3))),.sl 2 (.o (.c (.p 0 0))),.sl 4 (.o (.c (.k (.bool false)))),.sl 5 (.o (.c (.k (.bool true)))),.sl 8 (.o (.c (.p 0 0))),.sl 9 (.o (.c (.h 0))),.sl 10 (.o (.c (.h 4))),.sl 11 (.o (.c (.h 4))),.sl 12 (.o (.c (.p 0 1))),.sl 13 (.o (.c (.h 1))),.sl 14 (.o (.c (.h 3))),.sl 15 (.o (.c (.h 5))),.sl 16 (.o (.c (.h 5))),.sl 17 (.o (.c (.p 0 2))),.sl 18 (.o (.c (.h 2))),.sl 19 (.o (.c (.h 6))),.sl 20 (.o (.c (.h 14))),.bx 0 31 [.h 0,.h 1,.h 2]]) (C:=((10004,.fb 4 true) ::
  (1005000,.bin .lss 3 (LF (.h 7)) (LF (.h 6)) (LF (.h 9))) ::
  (10009,.fb 9 true) ::
  (1005001,.op (.ia 28) [LF (.h 2),LF (.h 7)] [] (LF (.h 10))) ::
  (1005002,.op (.ld 31) [LF (.h 10)] [] (.o (.g [.h 11,.h 12,.h 13]))) ::
  (10008,.fb 8 true) ::
  (1005012,.bin .add 3 (LF (.h 7)) (LF (.k (.int .i64 1))) (LF (.h 14))) ::
  []:List (Nat×Ent))) (H:=.no) 5000 (zipA.imp ⟨z_g ⟨fun _ _ _ h=>h,fun _ _ _ h=>h,fun _ _ _ h=>h,trivial⟩,z_c (fun _ _ _ h=>h),z_c (fun _ _ _ h=>h),z_c (fun _ _ _ h=>h),z_c (fun _ _ _ h=>h),z_c (fun _ _ _ h=>h),z_c (fun _ _ _ h=>h),z_c (fun _ _ _ h=>h),z_c (fun _ _ _ h=>h),z_c (fun _ _ _ h=>h),z_c (fun _ _ _ h=>h),z_c (fun _ _ _ h=>h),z_c (fun _ _ _ h=>h),z_c (fun _ _ _ h=>h),z_c (fun _ _ _ h=>h),z_c (fun _ _ _ h=>h),z_c (fun _ _ _ h=>h),z_c (fun _ _ _ h=>h),z_b ⟨fun _ _ _ h=>h,fun _ _ _ h=>h,fun _ _ _ h=>h,trivial⟩,trivial⟩) (zi ⟨zb rfl,zb rfl,(ze (zh rfl)),zb rfl,zb rfl,zb rfl,zb rfl,zb rfl,zb rfl,zb rfl,(zu ((zh rfl) _)),zb rfl,zb rfl,(ze (zh rfl)),zb rfl,trivial⟩) ⟨e_fb (show pV (.bool v1)=_ by rw [h2]),
  e_bin (za rfl) (za rfl) (za rfl) (r_cmp (congrArg some e501)),
  e_fb (show pV (.bool v501)=_ by rw [h502]),
  e_iaL (E:=31) (z:=3) zp (by kernel_rfl) (by kernel_rfl) (zd rfl) (za rfl) s505 s506 (zd rfl),
  e_ldG (by kernel_rfl) (by kernel_rfl) (zd rfl) (cE_eq _).symm rfl (zp _),
  e_fb (show pV (.bool g)=_ by rw [h507]),
  e_bin (za rfl) zc (za rfl) (r_ar (congrArg some e508)),
  trivial⟩ mixed hR trivial (fun _ _ _ hs=>by cases hs) (by kernel_rfl:qk (KN w0) Tryd.prog _ .no ⟨ntOf Tryd.prog 23,[],[]⟩ (lp Tryd.prog 23 0) 5000 znv .n [.sl 0 (.o (.g [.h 0,.h 1,.h 2])),.sl 1 (.o (.c (.h 3))),.sl 2 (.o (.c (.p 0 0))),.sl 4 (.o (.c (.k (.bool false)))),.sl 5 (.o (.c (.k (.bool true)))),.sl 8 (.o (.c (.p 0 0))),.sl 9 (.o (.c (.h 0))),.sl 10 (.o (.c (.h 4))),.sl 11 (.o (.c (.h 4))),.sl 12 (.o (.c (.p 0 1))),.sl 13 (.o (.c (.h 1))),.sl 14 (.o (.c (.h 3))),.sl 15 (.o (.c (.h 5))),.sl 16 (.o (.c (.h 5))),.sl 17 (.o (.c (.p 0 2))),.sl 18 (.o (.c (.h 2))),.sl 19 (.o (.c (.h 6))),.sl 20 (.o (.c (.h 14))),.bx 0 31 [.h 0,.h 1,.h 2]]=true) rfl (zipA.imp ⟨z_g ⟨fun _ _ _ h=>h,fun _ _ _ h=>h,fun _ _ _ h=>h,trivial⟩,z_c (fun _ _ _ h=>h),z_c (fun _ _ _ h=>h),z_c (fun _ _ _ h=>h),z_c (fun β v W h=>(zd rfl β v W).2 (by rw [← q0];exact h)),z_c (fun _ _ _ h=>h),z_c (fun _ _ _ h=>h),z_c (fun _ _ _ h=>h),z_c (fun _ _ _ h=>h),z_c (fun _ _ _ h=>h),z_c (fun _ _ _ h=>h),z_c (fun _ _ _ h=>h),z_c (fun _ _ _ h=>h),z_c (fun _ _ _ h=>h),z_c (fun _ _ _ h=>h),z_c (fun _ _ _ h=>h),z_c (fun _ _ _ h=>h),z_c (fun β v W h=>(zd rfl β v W).2 (by rw [← q1];exact h)),z_b ⟨fun _ _ _ h=>h,fun _ _ _ h=>h,fun _ _ _ h=>h,trivial⟩,trivial⟩)
theorem znZ {w0:World} (e:Xp) (a:Int) (N:Nat) (v1:Bool) (v3:Bool) (v4:Int) (IH:znx w0 N) (h2:v1=true) (i:Int) (g:Bool) (v501:Bool) (n503:Nat) (x504:Xp) (v508:Bool) (v510:Int) (e501:(decide (i<v4))=v501) (e508:(occX a x504)=v508) (e510:(IntKind.i64.wrap (i+(1:Int)))=v510) (h502:v501=true) (s505:i=(n503:Int)) (s506:e.l[n503]?=some x504) (h507:g=false) (s509:nodes x504≤N) (i':Int) (g':Bool) (q0:(v508)=g') (q1:(v510)=i') (R:Frm) (hR:R.pm=⟨ntOf Tryd.prog 23,[],[]⟩):Goes (KN w0) Tryd.prog R (lp Tryd.prog 23 0) (FL [pI e.op,pI e.n,pLs cE e.l,pI a,pB v1,pB v3,pI v4,pI i,pB g] []) znv .n (FL [pI e.op,pI e.n,pLs cE e.l,pI a,pB v1,pB v3,pI v4,pI i',pB g'] []) znv:=
 goes (x:=.n) (y:=.n) (Fb:=FL [pI e.op,pI e.n,pLs cE e.l,pI a,pB v1,pB v3,pI v4,pI i,pB g,pB v501,pP (cE x504),pI x504.op,pI x504.n,pLs cE x504.l,pB v508,pI v510] []) (stb:=znv) (tl:=[.sl 0 (.o (.g [.h 0,.h 1,.h 2])),.sl 1 (.o (.c (.h 3))),.sl 2 (.o (.c (.p 0 0))),.sl 4 (.o (.c (.k (.bool false)))),.sl 5 (.o (.c (.h 14))),.sl 8 (.o (.c (.p 0 0))),.sl 9 (.o (.c (.h 0))),.sl 10 (.o (.c (.h 4))),.sl 11 (.o (.c (.h 4))),.sl 12 (.o (.c (.p 0 1))),.sl 13 (.o (.c (.h 1))),.sl 14 (.o (.c (.h 3))),.sl 15 (.o (.c (.h 5))),.sl 16 (.o (.c (.h 5))),.sl 17 (.o (.c (.p 0 2))),.sl 18 (.o (.c (.h 2))),.sl 19 (.o (.c (.h 6))),.sl 20 (.o (.c (.h 15))),.bx 0 31 [.h 0,.h 1,.h 2]]) (C:=((10004,.fb 4 true) ::
  (1005000,.bin .lss 3 (LF (.h 7)) (LF (.h 6)) (LF (.h 9))) ::
  (10009,.fb 9 true) ::
  (1005001,.op (.ia 28) [LF (.h 2),LF (.h 7)] [] (LF (.h 10))) ::
  (1005002,.op (.ld 31) [LF (.h 10)] [] (.o (.g [.h 11,.h 12,.h 13]))) ::
  (10008,.fb 8 false) ::
  (1005009,.call ⟨23,[.o (.g [.h 11,.h 12,.h 13]),.o (.c (.h 3))],[],.o (.c (.h 14)),[]⟩) ::
  (1005012,.bin .add 3 (LF (.h 7)) (LF (.k (.int .i64 1))) (LF (.h 15))) ::
  []:List (Nat×Ent))) (H:=.no) 5000 (zipA.imp ⟨z_g ⟨fun _ _ _ h=>h,fun _ _ _ h=>h,fun _ _ _ h=>h,trivial⟩,z_c (fun _ _ _ h=>h),z_c (fun _ _ _ h=>h),z_c (fun _ _ _ h=>h),z_c (fun _ _ _ h=>h),z_c (fun _ _ _ h=>h),z_c (fun _ _ _ h=>h),z_c (fun _ _ _ h=>h),z_c (fun _ _ _ h=>h),z_c (fun _ _ _ h=>h),z_c (fun _ _ _ h=>h),z_c (fun _ _ _ h=>h),z_c (fun _ _ _ h=>h),z_c (fun _ _ _ h=>h),z_c (fun _ _ _ h=>h),z_c (fun _ _ _ h=>h),z_c (fun _ _ _ h=>h),z_c (fun _ _ _ h=>h),z_b ⟨fun _ _ _ h=>h,fun _ _ _ h=>h,fun _ _ _ h=>h,trivial⟩,trivial⟩) (zi ⟨zb rfl,zb rfl,(ze (zh rfl)),zb rfl,zb rfl,zb rfl,zb rfl,zb rfl,zb rfl,zb rfl,(zu ((zh rfl) _)),zb rfl,zb rfl,(ze (zh rfl)),zb rfl,zb rfl,trivial⟩) ⟨e_fb (show pV (.bool v1)=_ by rw [h2]),
  e_bin (za rfl) (za rfl) (za rfl) (r_cmp (congrArg some e501)),
  e_fb (show pV (.bool v501)=_ by rw [h502]),
  e_iaL (E:=31) (z:=3) zp (by kernel_rfl) (by kernel_rfl) (zd rfl) (za rfl) s505 s506 (zd rfl),
  e_ldG (by kernel_rfl) (by kernel_rfl) (zd rfl) (cE_eq _).symm rfl (zp _),
  e_fb (show pV (.bool g)=_ by rw [h507]),
  zg (IH x504 a v508 e508 s509) rfl rfl rfl rfl,
  e_bin (za rfl) zc (za rfl) (r_ar (congrArg some e510)),
  trivial⟩ mixed hR trivial (fun _ _ _ hs=>by cases hs) (by kernel_rfl:qk (KN w0) Tryd.prog _ .no ⟨ntOf Tryd.prog 23,[],[]⟩ (lp Tryd.prog 23 0) 5000 znv .n [.sl 0 (.o (.g [.h 0,.h 1,.h 2])),.sl 1 (.o (.c (.h 3))),.sl 2 (.o (.c (.p 0 0))),.sl 4 (.o (.c (.k (.bool false)))),.sl 5 (.o (.c (.h 14))),.sl 8 (.o (.c (.p 0 0))),.sl 9 (.o (.c (.h 0))),.sl 10 (.o (.c (.h 4))),.sl 11 (.o (.c (.h 4))),.sl 12 (.o (.c (.p 0 1))),.sl 13 (.o (.c (.h 1))),.sl 14 (.o (.c (.h 3))),.sl 15 (.o (.c (.h 5))),.sl 16 (.o (.c (.h 5))),.sl 17 (.o (.c (.p 0 2))),.sl 18 (.o (.c (.h 2))),.sl 19 (.o (.c (.h 6))),.sl 20 (.o (.c (.h 15))),.bx 0 31 [.h 0,.h 1,.h 2]]=true) rfl (zipA.imp ⟨z_g ⟨fun _ _ _ h=>h,fun _ _ _ h=>h,fun _ _ _ h=>h,trivial⟩,z_c (fun _ _ _ h=>h),z_c (fun _ _ _ h=>h),z_c (fun _ _ _ h=>h),z_c (fun β v W h=>(zd rfl β v W).2 (by rw [← q0];exact h)),z_c (fun _ _ _ h=>h),z_c (fun _ _ _ h=>h),z_c (fun _ _ _ h=>h),z_c (fun _ _ _ h=>h),z_c (fun _ _ _ h=>h),z_c (fun _ _ _ h=>h),z_c (fun _ _ _ h=>h),z_c (fun _ _ _ h=>h),z_c (fun _ _ _ h=>h),z_c (fun _ _ _ h=>h),z_c (fun _ _ _ h=>h),z_c (fun _ _ _ h=>h),z_c (fun β v W h=>(zd rfl β v W).2 (by rw [← q1];exact h)),z_b ⟨fun _ _ _ h=>h,fun _ _ _ h=>h,fun _ _ _ h=>h,trivial⟩,trivial⟩)
theorem zn0 {w0:World} (e:Xp) (a:Int) (N:Nat) (v1:Bool) (v3:Bool) (v4:Int) (IH:znx w0 N) (h2:v1=true) (i:Int) (g:Bool) (v501:Bool) (e501:(decide (i<v4))=v501) (h502:v501=false) (o:Bool) (F:Fact) (u0:F.c 0=pI e.op) (u1:F.c 1=pI e.n) (u2:F.c 2=pLs cE e.l) (u3:F.c 3=pI a) (u4:F.c 4=pB v1) (u5:F.c 5=pB v3) (u6:F.c 6=pI v4) (u7:F.c 7=pB o) (q0:(g)=o) (R:Frm) (hR:R.pm=⟨ntOf Tryd.prog 23,[],[]⟩):Goes (KN w0) Tryd.prog R (lp Tryd.prog 23 0) (FL [pI e.op,pI e.n,pLs cE e.l,pI a,pB v1,pB v3,pI v4,pI i,pB g] []) znv (.x 0) F znB.out:=
 goes (x:=(.x 0)) (y:=(.x 0)) (Fb:=FL [pI e.op,pI e.n,pLs cE e.l,pI a,pB v1,pB v3,pI v4,pI i,pB g,pB v501] []) (stb:=znv) (tl:=[.sl 0 (.o (.g [.h 0,.h 1,.h 2])),.sl 1 (.o (.c (.h 3))),.sl 2 (.o (.c (.p 0 0))),.sl 4 (.o (.c (.k (.bool false)))),.sl 5 (.o (.c (.h 8))),.sl 8 (.o (.c (.p 0 0))),.sl 9 (.o (.c (.h 0))),.sl 10 (.o (.c (.h 4))),.sl 11 (.o (.c (.h 4))),.sl 12 (.o (.c (.p 0 1))),.sl 13 (.o (.c (.h 1))),.sl 14 (.o (.c (.h 3))),.sl 15 (.o (.c (.h 5))),.sl 16 (.o (.c (.h 5))),.sl 17 (.o (.c (.p 0 2))),.sl 18 (.o (.c (.h 2))),.sl 19 (.o (.c (.h 6))),.bx 0 31 [.h 0,.h 1,.h 2]]) (C:=((10004,.fb 4 true) ::
  (1005000,.bin .lss 3 (LF (.h 7)) (LF (.h 6)) (LF (.h 9))) ::
  (10009,.fb 9 false) ::
  []:List (Nat×Ent))) (H:=.no) 5000 (zipA.imp ⟨z_g ⟨fun _ _ _ h=>h,fun _ _ _ h=>h,fun _ _ _ h=>h,trivial⟩,z_c (fun _ _ _ h=>h),z_c (fun _ _ _ h=>h),z_c (fun _ _ _ h=>h),z_c (fun _ _ _ h=>h),z_c (fun _ _ _ h=>h),z_c (fun _ _ _ h=>h),z_c (fun _ _ _ h=>h),z_c (fun _ _ _ h=>h),z_c (fun _ _ _ h=>h),z_c (fun _ _ _ h=>h),z_c (fun _ _ _ h=>h),z_c (fun _ _ _ h=>h),z_c (fun _ _ _ h=>h),z_c (fun _ _ _ h=>h),z_c (fun _ _ _ h=>h),z_c (fun _ _ _ h=>h),z_c (fun _ _ _ h=>h),z_b ⟨fun _ _ _ h=>h,fun _ _ _ h=>h,fun _ _ _ h=>h,trivial⟩,trivial⟩) (zi ⟨zb rfl,zb rfl,(ze (zh rfl)),zb rfl,zb rfl,zb rfl,zb rfl,zb rfl,zb rfl,zb rfl,trivial⟩) ⟨e_fb (show pV (.bool v1)=_ by rw [h2]),
  e_bin (za rfl) (za rfl) (za rfl) (r_cmp (congrArg some e501)),
  e_fb (show pV (.bool v501)=_ by rw [h502]),
  trivial⟩ mixed hR trivial (fun _ _ _ hs=>by cases hs) (by kernel_rfl:qk (KN w0) Tryd.prog _ .no ⟨ntOf Tryd.prog 23,[],[]⟩ (lp Tryd.prog 23 0) 5000 znv (.x 0) [.sl 0 (.o (.g [.h 0,.h 1,.h 2])),.sl 1 (.o (.c (.h 3))),.sl 2 (.o (.c (.p 0 0))),.sl 4 (.o (.c (.k (.bool false)))),.sl 5 (.o (.c (.h 8))),.sl 8 (.o (.c (.p 0 0))),.sl 9 (.o (.c (.h 0))),.sl 10 (.o (.c (.h 4))),.sl 11 (.o (.c (.h 4))),.sl 12 (.o (.c (.p 0 1))),.sl 13 (.o (.c (.h 1))),.sl 14 (.o (.c (.h 3))),.sl 15 (.o (.c (.h 5))),.sl 16 (.o (.c (.h 5))),.sl 17 (.o (.c (.p 0 2))),.sl 18 (.o (.c (.h 2))),.sl 19 (.o (.c (.h 6))),.bx 0 31 [.h 0,.h 1,.h 2]]=true) rfl (zipA.imp ⟨z_g ⟨fun β v W h=>(zd u0 β v W).2 h,fun β v W h=>(zd u1 β v W).2 h,fun β v W h=>(zd u2 β v W).2 h,trivial⟩,z_c (fun β v W h=>(zd u3 β v W).2 h),z_c (fun _ _ _ h=>h),z_c (fun _ _ _ h=>h),z_c (fun β v W h=>(zd u7 β v W).2 (by rw [← q0];exact h)),z_c (fun _ _ _ h=>h),z_c (fun β v W h=>(zd u0 β v W).2 h),z_c (fun β v W h=>(zd u4 β v W).2 h),z_c (fun β v W h=>(zd u4 β v W).2 h),z_c (fun _ _ _ h=>h),z_c (fun β v W h=>(zd u1 β v W).2 h),z_c (fun β v W h=>(zd u3 β v W).2 h),z_c (fun β v W h=>(zd u5 β v W).2 h),z_c (fun β v W h=>(zd u5 β v W).2 h),z_c (fun _ _ _ h=>h),z_c (fun β v W h=>(zd u2 β v W).2 h),z_c (fun β v W h=>(zd u6 β v W).2 h),z_b ⟨fun β v W h=>(zd u0 β v W).2 h,fun β v W h=>(zd u1 β v W).2 h,fun β v W h=>(zd u2 β v W).2 h,trivial⟩,trivial⟩)
def zn9 (e:Xp) (a:Int) (N:Nat) (v1:Bool) (v3:Bool) (v4:Int) (t:x_occurs_A_T) (o:Bool):Prop:=(∃(v501:Bool),((decide (t.i<v4))=v501)∧(v501=false)∧((t.g)=o)∧True)
def zn8 (e:Xp) (a:Int) (N:Nat) (v1:Bool) (v3:Bool) (v4:Int) (t t':x_occurs_A_T):Prop:=(∃(v501:Bool),∃(n503:Nat),∃(x504:Xp),∃(v508:Int),((decide (t.i<v4))=v501)∧((IntKind.i64.wrap (t.i+(1:Int)))=v508)∧(v501=true)∧(t.i=(n503:Int))∧(e.l[n503]?=some x504)∧(t.g=true)∧((true)=t'.g)∧((v508)=t'.i)∧True)∨(∃(v501:Bool),∃(n503:Nat),∃(x504:Xp),∃(v508:Bool),∃(v510:Int),((decide (t.i<v4))=v501)∧((occX a x504)=v508)∧((IntKind.i64.wrap (t.i+(1:Int)))=v510)∧(v501=true)∧(t.i=(n503:Int))∧(e.l[n503]?=some x504)∧(t.g=false)∧(nodes x504≤N)∧((v508)=t'.g)∧((v510)=t'.i)∧True)
theorem znV {w0:World} (e:Xp) (a:Int) (N:Nat) (v1:Bool) (v3:Bool) (v4:Int) (IH:znx w0 N) (h2:v1=true) (o:Bool) {F:Fact} (u0:F.c 0=pI e.op) (u1:F.c 1=pI e.n) (u2:F.c 2=pLs cE e.l) (u3:F.c 3=pI a) (u4:F.c 4=pB v1) (u5:F.c 5=pB v3) (u6:F.c 6=pI v4) (u7:F.c 7=pB o) (R:Frm) (hR:R.pm=⟨ntOf Tryd.prog 23,[],[]⟩) (J:x_occurs_A_T→Prop) (m:x_occurs_A_T→Nat) (hJ:J { i:=(0:Int),g:=v3 }) (rounds:∀t,J t→zn9 e a N v1 v3 v4 t o∨∃t',zn8 e a N v1 v3 v4 t t'∧m t'<m t∧J t'):zt (KN w0) Tryd.prog F R znB (lp Tryd.prog 23 0):=by
 refine qg (T:=x_occurs_A_T) (fun t=>FL [pI e.op,pI e.n,pLs cE e.l,pI a,pB v1,pB v3,pI v4,pI t.i,pB t.g] []) J m { i:=(0:Int),g:=v3 } znv hJ (zipA.imp ⟨z_g ⟨fun β v W h=>(zd u0 β v W).1 h,fun β v W h=>(zd u1 β v W).1 h,fun β v W h=>(zd u2 β v W).1 h,trivial⟩,z_c (fun β v W h=>(zd u3 β v W).1 h),z_c (fun _ _ _ h=>h),z_c (fun _ _ _ h=>h),z_c (fun β v W h=>(zd u5 β v W).1 h),z_c (fun _ _ _ h=>h),z_c (fun β v W h=>(zd u0 β v W).1 h),z_c (fun β v W h=>(zd u4 β v W).1 h),z_c (fun β v W h=>(zd u4 β v W).1 h),z_c (fun _ _ _ h=>h),z_c (fun β v W h=>(zd u1 β v W).1 h),z_c (fun β v W h=>(zd u3 β v W).1 h),z_c (fun β v W h=>(zd u5 β v W).1 h),z_c (fun β v W h=>(zd u5 β v W).1 h),z_c (fun _ _ _ h=>h),z_c (fun β v W h=>(zd u2 β v W).1 h),z_c (fun β v W h=>(zd u6 β v W).1 h),z_c (fun _ _ _ h=>h),z_b ⟨fun β v W h=>(zd u0 β v W).1 h,fun β v W h=>(zd u1 β v W).1 h,fun β v W h=>(zd u2 β v W).1 h,trivial⟩,trivial⟩) rfl fun t ht=>?_
 rcases rounds t ht with hz_ | ⟨t',hz_,hm_,hj_⟩
 ·refine .inl ?_
  rcases hz_ with ⟨v501,e501,h502,q0,_⟩
  ·exact zn0  e a N v1 v3 v4 IH h2 t.i t.g v501 e501 h502 o F u0 u1 u2 u3 u4 u5 u6 u7 q0 R hR
 ·refine .inr ⟨t',hm_,hj_,?_⟩
  rcases hz_ with ⟨v501,n503,x504,v508,e501,e508,h502,s505,s506,h507,q0,q1,_⟩ | ⟨v501,n503,x504,v508,v510,e501,e508,e510,h502,s505,s506,h507,s509,q0,q1,_⟩
  ·exact znY  e a N v1 v3 v4 IH h2 t.i t.g v501 n503 x504 v508 e501 e508 h502 s505 s506 h507 t'.i t'.g q0 q1 R hR
  ·exact znZ  e a N v1 v3 v4 IH h2 t.i t.g v501 n503 x504 v508 v510 e501 e508 e510 h502 s505 s506 h507 s509 t'.i t'.g q0 q1 R hR
theorem znX {w0:World} (e:Xp) (a:Int) (N:Nat) (v1:Bool) (v3:Bool) (v4:Int) (IH:znx w0 N) (h2:v1=true) (o:Bool) {F:Fact} (u0:F.c 0=pI e.op) (u1:F.c 1=pI e.n) (u2:F.c 2=pLs cE e.l) (u3:F.c 3=pI a) (u4:F.c 4=pB v1) (u5:F.c 5=pB v3) (u6:F.c 6=pI v4) (u7:F.c 7=pB o) (R:Frm) (hR:R.pm=⟨ntOf Tryd.prog 23,[],[]⟩) (hlen:(e.l.length:Int)=v4) (hb:e.l.length<9223372036854775808) (hN:nodes e≤N+1) (hO:(v3 || occL a e.l)=o):zt (KN w0) Tryd.prog F R znB (lp Tryd.prog 23 0):=by
 refine znV  e a N v1 v3 v4 IH h2 o u0 u1 u2 u3 u4 u5 u6 u7 R hR (fun ⟨i,g⟩=>∃k:Nat,i=(k:Int)∧k≤e.l.length∧(g || occL a (e.l.drop k))=o) (fun ⟨i,g⟩=>((e.l.length:Int) - i).toNat) ⟨0,rfl,Nat.zero_le _,by rw [List.drop_zero];exact hO⟩ fun t hJ=>?_
 obtain ⟨i,g⟩:=t
 dsimp only at hJ
 obtain ⟨k,hi,hk,hs⟩:=hJ
 obtain ⟨v501,e501⟩:∃v,(decide (i<v4))=v:=⟨_,rfl⟩
 cases h502:v501 with
 | true =>
  obtain ⟨n503,x504,s505,s506⟩:∃(n503:Nat) (x504:Xp),i=(n503:Int)∧e.l[n503]?=some x504:=by (have dh502:=of_decide_eq_true (e501.trans h502);have hz:=hlen;have hlt:k<e.l.length:=(by omega);exact ⟨k,_,hi,List.getElem?_eq_getElem hlt⟩)
  rcases Bool.eq_false_or_eq_true g with h507 | h507
  ·
   obtain ⟨v508,e508⟩:∃v,(IntKind.i64.wrap (i+(1:Int)))=v:=⟨_,rfl⟩
   refine .inr ⟨⟨v508,true⟩,Or.inl (⟨v501,n503,x504,v508,e501,e508,h502,s505,s506,h507,rfl,rfl,trivial⟩),?_,?_⟩
   all_goals (have dh502:=of_decide_eq_true (e501.trans h502);have hz:=hlen;have hkn:n503=k:=(by omega);subst hkn;have hd:=znN s506 a;rw [hd,h507] at hs;have hlt:n503<e.l.length:=(List.getElem?_eq_some_iff.1 s506).1;have x3:v508=((n503+1:Nat):Int):=(by rw [← e508,hi,wri (by omega)];omega))
   ·show ((e.l.length:Int) - v508).toNat<((e.l.length:Int) - i).toNat
    omega
   ·exact ⟨n503+1,x3,by omega,by rw [← hs];rfl⟩
  ·
   obtain ⟨v508,e508⟩:∃v,(occX a x504)=v:=⟨_,rfl⟩
   have s509:nodes x504≤N:=by exact zC hN s506
   obtain ⟨v510,e510⟩:∃v,(IntKind.i64.wrap (i+(1:Int)))=v:=⟨_,rfl⟩
   refine .inr ⟨⟨v510,v508⟩,Or.inr (⟨v501,n503,x504,v508,v510,e501,e508,e510,h502,s505,s506,h507,s509,rfl,rfl,trivial⟩),?_,?_⟩
   all_goals (have dh502:=of_decide_eq_true (e501.trans h502);have hz:=hlen;have hkn:n503=k:=(by omega);subst hkn;have hd:=znN s506 a;rw [hd,h507] at hs;rw [Bool.false_or,e508] at hs;have hlt:n503<e.l.length:=(List.getElem?_eq_some_iff.1 s506).1;have x3:v510=((n503+1:Nat):Int):=(by rw [← e510,hi,wri (by omega)];omega))
   ·show ((e.l.length:Int) - v510).toNat<((e.l.length:Int) - i).toNat
    omega
   ·exact ⟨n503+1,x3,by omega,hs⟩
 | false =>
  refine .inl (⟨v501,e501,h502,?_,trivial⟩)
  (have dh502:=of_decide_eq_false (e501.trans h502);have hz:=hlen;have hkl:k=e.l.length:=(by omega);rw [hkl,List.drop_length,occL,Bool.or_false] at hs;exact hs)
structure x_occurs_B_T where
 i:Int
 g:Bool
def znw:List Atom:=[.sl 0 (.o (.g [.h 0,.h 1,.h 2])),.sl 1 (.o (.c (.h 3))),.sl 2 (.o (.c (.p 0 0))),.sl 4 (.o (.c (.k (.bool false)))),.sl 5 (.o (.c (.h 7))),.sl 8 (.o (.c (.p 0 0))),.sl 9 (.o (.c (.h 0))),.sl 10 (.o (.c (.h 4))),.sl 11 (.o (.c (.h 4))),.sl 16 (.o (.c (.k (.bool false)))),.sl 17 (.o (.c (.p 0 2))),.sl 18 (.o (.c (.h 2))),.sl 19 (.o (.c (.h 5))),.sl 20 (.o (.c (.h 6))),.bx 0 31 [.h 0,.h 1,.h 2]]
def znC:LoopS:=⟨3,[.sl 0 (.o (.g [.h 0,.h 1,.h 2])),.sl 1 (.o (.c (.h 3))),.sl 2 (.o (.c (.p 0 0))),.sl 4 (.o (.c (.k (.bool false)))),.sl 5 (.o (.c (.k (.bool false)))),.sl 8 (.o (.c (.p 0 0))),.sl 9 (.o (.c (.h 0))),.sl 10 (.o (.c (.h 4))),.sl 11 (.o (.c (.h 4))),.sl 16 (.o (.c (.k (.bool false)))),.sl 17 (.o (.c (.p 0 2))),.sl 18 (.o (.c (.h 2))),.sl 19 (.o (.c (.h 5))),.sl 20 (.o (.c (.k (.int .i64 0)))),.bx 0 31 [.h 0,.h 1,.h 2]],(.x 0),[.sl 0 (.o (.g [.h 0,.h 1,.h 2])),.sl 1 (.o (.c (.h 3))),.sl 2 (.o (.c (.p 0 0))),.sl 4 (.o (.c (.k (.bool false)))),.sl 5 (.o (.c (.h 6))),.sl 8 (.o (.c (.p 0 0))),.sl 9 (.o (.c (.h 0))),.sl 10 (.o (.c (.h 4))),.sl 11 (.o (.c (.h 4))),.sl 16 (.o (.c (.k (.bool false)))),.sl 17 (.o (.c (.p 0 2))),.sl 18 (.o (.c (.h 2))),.sl 19 (.o (.c (.h 5))),.bx 0 31 [.h 0,.h 1,.h 2]]⟩
theorem zn2 {w0:World} (e:Xp) (a:Int) (N:Nat) (v1:Bool) (v3:Int) (IH:znx w0 N) (h2:v1=false) (i:Int) (g:Bool) (v501:Bool) (n503:Nat) (x504:Xp) (v508:Int) (e501:(decide (i<v3))=v501) (e508:(IntKind.i64.wrap (i+(1:Int)))=v508) (h502:v501=true) (s505:i=(n503:Int)) (s506:e.l[n503]?=some x504) (h507:g=true) (i':Int) (g':Bool) (q0:(true)=g') (q1:(v508)=i') (R:Frm) (hR:R.pm=⟨ntOf Tryd.prog 23,[],[]⟩):Goes (KN w0) Tryd.prog R (lp Tryd.prog 23 0) (FL [pI e.op,pI e.n,pLs cE e.l,pI a,pB v1,pI v3,pI i,pB g] []) znw .n (FL [pI e.op,pI e.n,pLs cE e.l,pI a,pB v1,pI v3,pI i',pB g'] []) znw:=
 goes (x:=.n) (y:=.n) (Fb:=FL [pI e.op,pI e.n,pLs cE e.l,pI a,pB v1,pI v3,pI i,pB g,pB v501,pP (cE x504),pI x504.op,pI x504.n,pLs cE x504.l,pI v508] []) (stb:=znw) (tl:=[.sl 0 (.o (.g [.h 0,.h 1,.h 2])),.sl 1 (.o (.c (.h 3))),.sl 2 (.o (.c (.p 0 0))),.sl 4 (.o (.c (.k (.bool false)))),.sl 5 (.o (.c (.k (.bool true)))),.sl 8 (.o (.c (.p 0 0))),.sl 9 (.o (.c (.h 0))),.sl 10 (.o (.c (.h 4))),.sl 11 (.o (.c (.h 4))),.sl 16 (.o (.c (.k (.bool false)))),.sl 17 (.o (.c (.p 0 2))),.sl 18 (.o (.c (.h 2))),.sl 19 (.o (.c (.h 5))),.sl 20 (.o (.c (.h 13))),.bx 0 31 [.h 0,.h 1,.h 2]]) (C:=((10004,.fb 4 false) ::
  (1005000,.bin .lss 3 (LF (.h 6)) (LF (.h 5)) (LF (.h 8))) ::
  (10008,.fb 8 true) ::
  (1005001,.op (.ia 28) [LF (.h 2),LF (.h 6)] [] (LF (.h 9))) ::
  (1005002,.op (.ld 31) [LF (.h 9)] [] (.o (.g [.h 10,.h 11,.h 12]))) ::
  (10007,.fb 7 true) ::
  (1005012,.bin .add 3 (LF (.h 6)) (LF (.k (.int .i64 1))) (LF (.h 13))) ::
  []:List (Nat×Ent))) (H:=.no) 5000 (zipA.imp ⟨z_g ⟨fun _ _ _ h=>h,fun _ _ _ h=>h,fun _ _ _ h=>h,trivial⟩,z_c (fun _ _ _ h=>h),z_c (fun _ _ _ h=>h),z_c (fun _ _ _ h=>h),z_c (fun _ _ _ h=>h),z_c (fun _ _ _ h=>h),z_c (fun _ _ _ h=>h),z_c (fun _ _ _ h=>h),z_c (fun _ _ _ h=>h),z_c (fun _ _ _ h=>h),z_c (fun _ _ _ h=>h),z_c (fun _ _ _ h=>h),z_c (fun _ _ _ h=>h),z_c (fun _ _ _ h=>h),z_b ⟨fun _ _ _ h=>h,fun _ _ _ h=>h,fun _ _ _ h=>h,trivial⟩,trivial⟩) (zi ⟨zb rfl,zb rfl,(ze (zh rfl)),zb rfl,zb rfl,zb rfl,zb rfl,zb rfl,zb rfl,(zu ((zh rfl) _)),zb rfl,zb rfl,(ze (zh rfl)),zb rfl,trivial⟩) ⟨e_fb (show pV (.bool v1)=_ by rw [h2]),
  e_bin (za rfl) (za rfl) (za rfl) (r_cmp (congrArg some e501)),
  e_fb (show pV (.bool v501)=_ by rw [h502]),
  e_iaL (E:=31) (z:=3) zp (by kernel_rfl) (by kernel_rfl) (zd rfl) (za rfl) s505 s506 (zd rfl),
  e_ldG (by kernel_rfl) (by kernel_rfl) (zd rfl) (cE_eq _).symm rfl (zp _),
  e_fb (show pV (.bool g)=_ by rw [h507]),
  e_bin (za rfl) zc (za rfl) (r_ar (congrArg some e508)),
  trivial⟩ mixed hR trivial (fun _ _ _ hs=>by cases hs) (by kernel_rfl:qk (KN w0) Tryd.prog _ .no ⟨ntOf Tryd.prog 23,[],[]⟩ (lp Tryd.prog 23 0) 5000 znw .n [.sl 0 (.o (.g [.h 0,.h 1,.h 2])),.sl 1 (.o (.c (.h 3))),.sl 2 (.o (.c (.p 0 0))),.sl 4 (.o (.c (.k (.bool false)))),.sl 5 (.o (.c (.k (.bool true)))),.sl 8 (.o (.c (.p 0 0))),.sl 9 (.o (.c (.h 0))),.sl 10 (.o (.c (.h 4))),.sl 11 (.o (.c (.h 4))),.sl 16 (.o (.c (.k (.bool false)))),.sl 17 (.o (.c (.p 0 2))),.sl 18 (.o (.c (.h 2))),.sl 19 (.o (.c (.h 5))),.sl 20 (.o (.c (.h 13))),.bx 0 31 [.h 0,.h 1,.h 2]]=true) rfl (zipA.imp ⟨z_g ⟨fun _ _ _ h=>h,fun _ _ _ h=>h,fun _ _ _ h=>h,trivial⟩,z_c (fun _ _ _ h=>h),z_c (fun _ _ _ h=>h),z_c (fun _ _ _ h=>h),z_c (fun β v W h=>(zd rfl β v W).2 (by rw [← q0];exact h)),z_c (fun _ _ _ h=>h),z_c (fun _ _ _ h=>h),z_c (fun _ _ _ h=>h),z_c (fun _ _ _ h=>h),z_c (fun _ _ _ h=>h),z_c (fun _ _ _ h=>h),z_c (fun _ _ _ h=>h),z_c (fun _ _ _ h=>h),z_c (fun β v W h=>(zd rfl β v W).2 (by rw [← q1];exact h)),z_b ⟨fun _ _ _ h=>h,fun _ _ _ h=>h,fun _ _ _ h=>h,trivial⟩,trivial⟩)
theorem zn3 {w0:World} (e:Xp) (a:Int) (N:Nat) (v1:Bool) (v3:Int) (IH:znx w0 N) (h2:v1=false) (i:Int) (g:Bool) (v501:Bool) (n503:Nat) (x504:Xp) (v508:Bool) (v510:Int) (e501:(decide (i<v3))=v501) (e508:(occX a x504)=v508) (e510:(IntKind.i64.wrap (i+(1:Int)))=v510) (h502:v501=true) (s505:i=(n503:Int)) (s506:e.l[n503]?=some x504) (h507:g=false) (s509:nodes x504≤N) (i':Int) (g':Bool) (q0:(v508)=g') (q1:(v510)=i') (R:Frm) (hR:R.pm=⟨ntOf Tryd.prog 23,[],[]⟩):Goes (KN w0) Tryd.prog R (lp Tryd.prog 23 0) (FL [pI e.op,pI e.n,pLs cE e.l,pI a,pB v1,pI v3,pI i,pB g] []) znw .n (FL [pI e.op,pI e.n,pLs cE e.l,pI a,pB v1,pI v3,pI i',pB g'] []) znw:=
 goes (x:=.n) (y:=.n) (Fb:=FL [pI e.op,pI e.n,pLs cE e.l,pI a,pB v1,pI v3,pI i,pB g,pB v501,pP (cE x504),pI x504.op,pI x504.n,pLs cE x504.l,pB v508,pI v510] []) (stb:=znw) (tl:=[.sl 0 (.o (.g [.h 0,.h 1,.h 2])),.sl 1 (.o (.c (.h 3))),.sl 2 (.o (.c (.p 0 0))),.sl 4 (.o (.c (.k (.bool false)))),.sl 5 (.o (.c (.h 13))),.sl 8 (.o (.c (.p 0 0))),.sl 9 (.o (.c (.h 0))),.sl 10 (.o (.c (.h 4))),.sl 11 (.o (.c (.h 4))),.sl 16 (.o (.c (.k (.bool false)))),.sl 17 (.o (.c (.p 0 2))),.sl 18 (.o (.c (.h 2))),.sl 19 (.o (.c (.h 5))),.sl 20 (.o (.c (.h 14))),.bx 0 31 [.h 0,.h 1,.h 2]]) (C:=((10004,.fb 4 false) ::
  (1005000,.bin .lss 3 (LF (.h 6)) (LF (.h 5)) (LF (.h 8))) ::
  (10008,.fb 8 true) ::
  (1005001,.op (.ia 28) [LF (.h 2),LF (.h 6)] [] (LF (.h 9))) ::
  (1005002,.op (.ld 31) [LF (.h 9)] [] (.o (.g [.h 10,.h 11,.h 12]))) ::
  (10007,.fb 7 false) ::
  (1005009,.call ⟨23,[.o (.g [.h 10,.h 11,.h 12]),.o (.c (.h 3))],[],.o (.c (.h 13)),[]⟩) ::
  (1005012,.bin .add 3 (LF (.h 6)) (LF (.k (.int .i64 1))) (LF (.h 14))) ::
  []:List (Nat×Ent))) (H:=.no) 5000 (zipA.imp ⟨z_g ⟨fun _ _ _ h=>h,fun _ _ _ h=>h,fun _ _ _ h=>h,trivial⟩,z_c (fun _ _ _ h=>h),z_c (fun _ _ _ h=>h),z_c (fun _ _ _ h=>h),z_c (fun _ _ _ h=>h),z_c (fun _ _ _ h=>h),z_c (fun _ _ _ h=>h),z_c (fun _ _ _ h=>h),z_c (fun _ _ _ h=>h),z_c (fun _ _ _ h=>h),z_c (fun _ _ _ h=>h),z_c (fun _ _ _ h=>h),z_c (fun _ _ _ h=>h),z_c (fun _ _ _ h=>h),z_b ⟨fun _ _ _ h=>h,fun _ _ _ h=>h,fun _ _ _ h=>h,trivial⟩,trivial⟩) (zi ⟨zb rfl,zb rfl,(ze (zh rfl)),zb rfl,zb rfl,zb rfl,zb rfl,zb rfl,zb rfl,(zu ((zh rfl) _)),zb rfl,zb rfl,(ze (zh rfl)),zb rfl,zb rfl,trivial⟩) ⟨e_fb (show pV (.bool v1)=_ by rw [h2]),
  e_bin (za rfl) (za rfl) (za rfl) (r_cmp (congrArg some e501)),
  e_fb (show pV (.bool v501)=_ by rw [h502]),
  e_iaL (E:=31) (z:=3) zp (by kernel_rfl) (by kernel_rfl) (zd rfl) (za rfl) s505 s506 (zd rfl),
  e_ldG (by kernel_rfl) (by kernel_rfl) (zd rfl) (cE_eq _).symm rfl (zp _),
  e_fb (show pV (.bool g)=_ by rw [h507]),
  zg (IH x504 a v508 e508 s509) rfl rfl rfl rfl,
  e_bin (za rfl) zc (za rfl) (r_ar (congrArg some e510)),
  trivial⟩ mixed hR trivial (fun _ _ _ hs=>by cases hs) (by kernel_rfl:qk (KN w0) Tryd.prog _ .no ⟨ntOf Tryd.prog 23,[],[]⟩ (lp Tryd.prog 23 0) 5000 znw .n [.sl 0 (.o (.g [.h 0,.h 1,.h 2])),.sl 1 (.o (.c (.h 3))),.sl 2 (.o (.c (.p 0 0))),.sl 4 (.o (.c (.k (.bool false)))),.sl 5 (.o (.c (.h 13))),.sl 8 (.o (.c (.p 0 0))),.sl 9 (.o (.c (.h 0))),.sl 10 (.o (.c (.h 4))),.sl 11 (.o (.c (.h 4))),.sl 16 (.o (.c (.k (.bool false)))),.sl 17 (.o (.c (.p 0 2))),.sl 18 (.o (.c (.h 2))),.sl 19 (.o (.c (.h 5))),.sl 20 (.o (.c (.h 14))),.bx 0 31 [.h 0,.h 1,.h 2]]=true) rfl (zipA.imp ⟨z_g ⟨fun _ _ _ h=>h,fun _ _ _ h=>h,fun _ _ _ h=>h,trivial⟩,z_c (fun _ _ _ h=>h),z_c (fun _ _ _ h=>h),z_c (fun _ _ _ h=>h),z_c (fun β v W h=>(zd rfl β v W).2 (by rw [← q0];exact h)),z_c (fun _ _ _ h=>h),z_c (fun _ _ _ h=>h),z_c (fun _ _ _ h=>h),z_c (fun _ _ _ h=>h),z_c (fun _ _ _ h=>h),z_c (fun _ _ _ h=>h),z_c (fun _ _ _ h=>h),z_c (fun _ _ _ h=>h),z_c (fun β v W h=>(zd rfl β v W).2 (by rw [← q1];exact h)),z_b ⟨fun _ _ _ h=>h,fun _ _ _ h=>h,fun _ _ _ h=>h,trivial⟩,trivial⟩)
theorem zn4 {w0:World} (e:Xp) (a:Int) (N:Nat) (v1:Bool) (v3:Int) (IH:znx w0 N) (h2:v1=false) (i:Int) (g:Bool) (v501:Bool) (e501:(decide (i<v3))=v501) (h502:v501=false) (o:Bool) (F:Fact) (u0:F.c 0=pI e.op) (u1:F.c 1=pI e.n) (u2:F.c 2=pLs cE e.l) (u3:F.c 3=pI a) (u4:F.c 4=pB v1) (u5:F.c 5=pI v3) (u6:F.c 6=pB o) (q0:(g)=o) (R:Frm) (hR:R.pm=⟨ntOf Tryd.prog 23,[],[]⟩):Goes (KN w0) Tryd.prog R (lp Tryd.prog 23 0) (FL [pI e.op,pI e.n,pLs cE e.l,pI a,pB v1,pI v3,pI i,pB g] []) znw (.x 0) F znC.out:=
 goes (x:=(.x 0)) (y:=(.x 0)) (Fb:=FL [pI e.op,pI e.n,pLs cE e.l,pI a,pB v1,pI v3,pI i,pB g,pB v501] []) (stb:=znw) (tl:=[.sl 0 (.o (.g [.h 0,.h 1,.h 2])),.sl 1 (.o (.c (.h 3))),.sl 2 (.o (.c (.p 0 0))),.sl 4 (.o (.c (.k (.bool false)))),.sl 5 (.o (.c (.h 7))),.sl 8 (.o (.c (.p 0 0))),.sl 9 (.o (.c (.h 0))),.sl 10 (.o (.c (.h 4))),.sl 11 (.o (.c (.h 4))),.sl 16 (.o (.c (.k (.bool false)))),.sl 17 (.o (.c (.p 0 2))),.sl 18 (.o (.c (.h 2))),.sl 19 (.o (.c (.h 5))),.bx 0 31 [.h 0,.h 1,.h 2]]) (C:=((10004,.fb 4 false) ::
  (1005000,.bin .lss 3 (LF (.h 6)) (LF (.h 5)) (LF (.h 8))) ::
  (10008,.fb 8 false) ::
  []:List (Nat×Ent))) (H:=.no) 5000 (zipA.imp ⟨z_g ⟨fun _ _ _ h=>h,fun _ _ _ h=>h,fun _ _ _ h=>h,trivial⟩,z_c (fun _ _ _ h=>h),z_c (fun _ _ _ h=>h),z_c (fun _ _ _ h=>h),z_c (fun _ _ _ h=>h),z_c (fun _ _ _ h=>h),z_c (fun _ _ _ h=>h),z_c (fun _ _ _ h=>h),z_c (fun _ _ _ h=>h),z_c (fun _ _ _ h=>h),z_c (fun _ _ _ h=>h),z_c (fun _ _ _ h=>h),z_c (fun _ _ _ h=>h),z_c (fun _ _ _ h=>h),z_b ⟨fun _ _ _ h=>h,fun _ _ _ h=>h,fun _ _ _ h=>h,trivial⟩,trivial⟩) (zi ⟨zb rfl,zb rfl,(ze (zh rfl)),zb rfl,zb rfl,zb rfl,zb rfl,zb rfl,zb rfl,trivial⟩) ⟨e_fb (show pV (.bool v1)=_ by rw [h2]),
  e_bin (za rfl) (za rfl) (za rfl) (r_cmp (congrArg some e501)),
  e_fb (show pV (.bool v501)=_ by rw [h502]),
  trivial⟩ mixed hR trivial (fun _ _ _ hs=>by cases hs) (by kernel_rfl:qk (KN w0) Tryd.prog _ .no ⟨ntOf Tryd.prog 23,[],[]⟩ (lp Tryd.prog 23 0) 5000 znw (.x 0) [.sl 0 (.o (.g [.h 0,.h 1,.h 2])),.sl 1 (.o (.c (.h 3))),.sl 2 (.o (.c (.p 0 0))),.sl 4 (.o (.c (.k (.bool false)))),.sl 5 (.o (.c (.h 7))),.sl 8 (.o (.c (.p 0 0))),.sl 9 (.o (.c (.h 0))),.sl 10 (.o (.c (.h 4))),.sl 11 (.o (.c (.h 4))),.sl 16 (.o (.c (.k (.bool false)))),.sl 17 (.o (.c (.p 0 2))),.sl 18 (.o (.c (.h 2))),.sl 19 (.o (.c (.h 5))),.bx 0 31 [.h 0,.h 1,.h 2]]=true) rfl (zipA.imp ⟨z_g ⟨fun β v W h=>(zd u0 β v W).2 h,fun β v W h=>(zd u1 β v W).2 h,fun β v W h=>(zd u2 β v W).2 h,trivial⟩,z_c (fun β v W h=>(zd u3 β v W).2 h),z_c (fun _ _ _ h=>h),z_c (fun _ _ _ h=>h),z_c (fun β v W h=>(zd u6 β v W).2 (by rw [← q0];exact h)),z_c (fun _ _ _ h=>h),z_c (fun β v W h=>(zd u0 β v W).2 h),z_c (fun β v W h=>(zd u4 β v W).2 h),z_c (fun β v W h=>(zd u4 β v W).2 h),z_c (fun _ _ _ h=>h),z_c (fun _ _ _ h=>h),z_c (fun β v W h=>(zd u2 β v W).2 h),z_c (fun β v W h=>(zd u5 β v W).2 h),z_b ⟨fun β v W h=>(zd u0 β v W).2 h,fun β v W h=>(zd u1 β v W).2 h,fun β v W h=>(zd u2 β v W).2 h,trivial⟩,trivial⟩)
def zob (e:Xp) (a:Int) (N:Nat) (v1:Bool) (v3:Int) (t:x_occurs_B_T) (o:Bool):Prop:=(∃(v501:Bool),((decide (t.i<v3))=v501)∧(v501=false)∧((t.g)=o)∧True)
def zoa (e:Xp) (a:Int) (N:Nat) (v1:Bool) (v3:Int) (t t':x_occurs_B_T):Prop:=(∃(v501:Bool),∃(n503:Nat),∃(x504:Xp),∃(v508:Int),((decide (t.i<v3))=v501)∧((IntKind.i64.wrap (t.i+(1:Int)))=v508)∧(v501=true)∧(t.i=(n503:Int))∧(e.l[n503]?=some x504)∧(t.g=true)∧((true)=t'.g)∧((v508)=t'.i)∧True)∨(∃(v501:Bool),∃(n503:Nat),∃(x504:Xp),∃(v508:Bool),∃(v510:Int),((decide (t.i<v3))=v501)∧((occX a x504)=v508)∧((IntKind.i64.wrap (t.i+(1:Int)))=v510)∧(v501=true)∧(t.i=(n503:Int))∧(e.l[n503]?=some x504)∧(t.g=false)∧(nodes x504≤N)∧((v508)=t'.g)∧((v510)=t'.i)∧True)
theorem znW {w0:World} (e:Xp) (a:Int) (N:Nat) (v1:Bool) (v3:Int) (IH:znx w0 N) (h2:v1=false) (o:Bool) {F:Fact} (u0:F.c 0=pI e.op) (u1:F.c 1=pI e.n) (u2:F.c 2=pLs cE e.l) (u3:F.c 3=pI a) (u4:F.c 4=pB v1) (u5:F.c 5=pI v3) (u6:F.c 6=pB o) (R:Frm) (hR:R.pm=⟨ntOf Tryd.prog 23,[],[]⟩) (J:x_occurs_B_T→Prop) (m:x_occurs_B_T→Nat) (hJ:J { i:=(0:Int),g:=false }) (rounds:∀t,J t→zob e a N v1 v3 t o∨∃t',zoa e a N v1 v3 t t'∧m t'<m t∧J t'):zt (KN w0) Tryd.prog F R znC (lp Tryd.prog 23 0):=by
 refine qg (T:=x_occurs_B_T) (fun t=>FL [pI e.op,pI e.n,pLs cE e.l,pI a,pB v1,pI v3,pI t.i,pB t.g] []) J m { i:=(0:Int),g:=false } znw hJ (zipA.imp ⟨z_g ⟨fun β v W h=>(zd u0 β v W).1 h,fun β v W h=>(zd u1 β v W).1 h,fun β v W h=>(zd u2 β v W).1 h,trivial⟩,z_c (fun β v W h=>(zd u3 β v W).1 h),z_c (fun _ _ _ h=>h),z_c (fun _ _ _ h=>h),z_c (fun _ _ _ h=>h),z_c (fun _ _ _ h=>h),z_c (fun β v W h=>(zd u0 β v W).1 h),z_c (fun β v W h=>(zd u4 β v W).1 h),z_c (fun β v W h=>(zd u4 β v W).1 h),z_c (fun _ _ _ h=>h),z_c (fun _ _ _ h=>h),z_c (fun β v W h=>(zd u2 β v W).1 h),z_c (fun β v W h=>(zd u5 β v W).1 h),z_c (fun _ _ _ h=>h),z_b ⟨fun β v W h=>(zd u0 β v W).1 h,fun β v W h=>(zd u1 β v W).1 h,fun β v W h=>(zd u2 β v W).1 h,trivial⟩,trivial⟩) rfl fun t ht=>?_
 rcases rounds t ht with hz_ | ⟨t',hz_,hm_,hj_⟩
 ·refine .inl ?_
  rcases hz_ with ⟨v501,e501,h502,q0,_⟩
  ·exact zn4  e a N v1 v3 IH h2 t.i t.g v501 e501 h502 o F u0 u1 u2 u3 u4 u5 u6 q0 R hR
 ·refine .inr ⟨t',hm_,hj_,?_⟩
  rcases hz_ with ⟨v501,n503,x504,v508,e501,e508,h502,s505,s506,h507,q0,q1,_⟩ | ⟨v501,n503,x504,v508,v510,e501,e508,e510,h502,s505,s506,h507,s509,q0,q1,_⟩
  ·exact zn2  e a N v1 v3 IH h2 t.i t.g v501 n503 x504 v508 e501 e508 h502 s505 s506 h507 t'.i t'.g q0 q1 R hR
  ·exact zn3  e a N v1 v3 IH h2 t.i t.g v501 n503 x504 v508 v510 e501 e508 e510 h502 s505 s506 h507 s509 t'.i t'.g q0 q1 R hR
theorem zn1 {w0:World} (e:Xp) (a:Int) (N:Nat) (v1:Bool) (v3:Int) (IH:znx w0 N) (h2:v1=false) (o:Bool) {F:Fact} (u0:F.c 0=pI e.op) (u1:F.c 1=pI e.n) (u2:F.c 2=pLs cE e.l) (u3:F.c 3=pI a) (u4:F.c 4=pB v1) (u5:F.c 5=pI v3) (u6:F.c 6=pB o) (R:Frm) (hR:R.pm=⟨ntOf Tryd.prog 23,[],[]⟩) (hlen:(e.l.length:Int)=v3) (hb:e.l.length<9223372036854775808) (hN:nodes e≤N+1) (hO:(false || occL a e.l)=o):zt (KN w0) Tryd.prog F R znC (lp Tryd.prog 23 0):=by
 refine znW  e a N v1 v3 IH h2 o u0 u1 u2 u3 u4 u5 u6 R hR (fun ⟨i,g⟩=>∃k:Nat,i=(k:Int)∧k≤e.l.length∧(g || occL a (e.l.drop k))=o) (fun ⟨i,g⟩=>((e.l.length:Int) - i).toNat) ⟨0,rfl,Nat.zero_le _,by rw [List.drop_zero];exact hO⟩ fun t hJ=>?_
 obtain ⟨i,g⟩:=t
 dsimp only at hJ
 obtain ⟨k,hi,hk,hs⟩:=hJ
 obtain ⟨v501,e501⟩:∃v,(decide (i<v3))=v:=⟨_,rfl⟩
 cases h502:v501 with
 | true =>
  obtain ⟨n503,x504,s505,s506⟩:∃(n503:Nat) (x504:Xp),i=(n503:Int)∧e.l[n503]?=some x504:=by (have dh502:=of_decide_eq_true (e501.trans h502);have hz:=hlen;have hlt:k<e.l.length:=(by omega);exact ⟨k,_,hi,List.getElem?_eq_getElem hlt⟩)
  rcases Bool.eq_false_or_eq_true g with h507 | h507
  ·
   obtain ⟨v508,e508⟩:∃v,(IntKind.i64.wrap (i+(1:Int)))=v:=⟨_,rfl⟩
   refine .inr ⟨⟨v508,true⟩,Or.inl (⟨v501,n503,x504,v508,e501,e508,h502,s505,s506,h507,rfl,rfl,trivial⟩),?_,?_⟩
   all_goals (have dh502:=of_decide_eq_true (e501.trans h502);have hz:=hlen;have hkn:n503=k:=(by omega);subst hkn;have hd:=znN s506 a;rw [hd,h507] at hs;have hlt:n503<e.l.length:=(List.getElem?_eq_some_iff.1 s506).1;have x3:v508=((n503+1:Nat):Int):=(by rw [← e508,hi,wri (by omega)];omega))
   ·show ((e.l.length:Int) - v508).toNat<((e.l.length:Int) - i).toNat
    omega
   ·exact ⟨n503+1,x3,by omega,by rw [← hs];rfl⟩
  ·
   obtain ⟨v508,e508⟩:∃v,(occX a x504)=v:=⟨_,rfl⟩
   have s509:nodes x504≤N:=by exact zC hN s506
   obtain ⟨v510,e510⟩:∃v,(IntKind.i64.wrap (i+(1:Int)))=v:=⟨_,rfl⟩
   refine .inr ⟨⟨v510,v508⟩,Or.inr (⟨v501,n503,x504,v508,v510,e501,e508,e510,h502,s505,s506,h507,s509,rfl,rfl,trivial⟩),?_,?_⟩
   all_goals (have dh502:=of_decide_eq_true (e501.trans h502);have hz:=hlen;have hkn:n503=k:=(by omega);subst hkn;have hd:=znN s506 a;rw [hd,h507] at hs;rw [Bool.false_or,e508] at hs;have hlt:n503<e.l.length:=(List.getElem?_eq_some_iff.1 s506).1;have x3:v510=((n503+1:Nat):Int):=(by rw [← e510,hi,wri (by omega)];omega))
   ·show ((e.l.length:Int) - v510).toNat<((e.l.length:Int) - i).toNat
    omega
   ·exact ⟨n503+1,x3,by omega,hs⟩
 | false =>
  refine .inl (⟨v501,e501,h502,?_,trivial⟩)
  (have dh502:=of_decide_eq_false (e501.trans h502);have hz:=hlen;have hkl:k=e.l.length:=(by omega);rw [hkl,List.drop_length,occL,Bool.or_false] at hs;exact hs)
theorem zoc {w0:World} (e:Xp) (a:Int) (N:Nat) (IH:znx w0 N) (v1:Bool) (v3:Bool) (v4:Int) (o:Bool) (e1:((e.op == (2:Int)))=v1) (e3:((e.n == a))=v3) (e4:((e.l.length:Int))=v4) (h2:v1=true) (L_x_occurs_A:∀R:Frm,R.pm=⟨ntOf Tryd.prog 23,[],[]⟩→zt (KN w0) Tryd.prog (FL [pI e.op,pI e.n,pLs cE e.l,pI a,pB v1,pB v3,pI v4,pB o] []) R znB (lp Tryd.prog 23 0)):Fun (KN w0) Tryd.prog 23 [.o (.g [pI e.op,pI e.n,pLs cE e.l]),.o (.c (pI a))] (.o (.c (pB o))):=
 zj (zA (F:=FL [pI e.op,pI e.n,pLs cE e.l,pI a,pB v1,pB v3,pI v4,pB o] []) (C:=[(1000004,.bin .eql 3 (LF (.h 0)) (LF (.k (.int .i64 2))) (LF (.h 4))),
  (10004,.fb 4 true),
  (1000009,.bin .eql 3 (LF (.h 1)) (LF (.h 3)) (LF (.h 5))),
  (1000014,.op (.len [28] 3) [LF (.h 2)] [] (LF (.h 6)))]) (k:=⟨23,[.o (.g [.h 0,.h 1,.h 2]),.o (.c (.h 3))],[],.o (.c (.h 7)),[]⟩) ⟨[znB],[],0⟩ [] 0 (zi ⟨zb rfl,zb rfl,(ze (zh rfl)),zb rfl,zb rfl,zb rfl,zb rfl,zb rfl,trivial⟩) ⟨e_bin (za rfl) zc (za rfl) (r_cmp (congrArg some e1)),
  e_fb (show pV (.bool v1)=_ by rw [h2]),
  e_bin (za rfl) (za rfl) (za rfl) (r_cmp (congrArg some e3)),
  zm (E:=31) (by kernel_rfl) (zd rfl) (za (by rw [← e4];rfl)),
  trivial⟩ mixed trivial (fun R hR p hp s hs=>by
 have hl:zW (qP Tryd.prog 23)=[(3,lp Tryd.prog 23 0)]:=by kernel_rfl
 rw [hl] at hp
 simp only [List.mem_cons,List.not_mem_nil,or_false] at hp
 rcases hp with rfl
 ·have e:s=znB:=(Option.some.inj hs).symm
  subst e;exact L_x_occurs_A R hR) (by kernel_rfl)) rfl rfl rfl rfl
theorem zod {w0:World} (e:Xp) (a:Int) (N:Nat) (IH:znx w0 N) (v1:Bool) (v3:Int) (o:Bool) (e1:((e.op == (2:Int)))=v1) (e3:((e.l.length:Int))=v3) (h2:v1=false) (L_x_occurs_B:∀R:Frm,R.pm=⟨ntOf Tryd.prog 23,[],[]⟩→zt (KN w0) Tryd.prog (FL [pI e.op,pI e.n,pLs cE e.l,pI a,pB v1,pI v3,pB o] []) R znC (lp Tryd.prog 23 0)):Fun (KN w0) Tryd.prog 23 [.o (.g [pI e.op,pI e.n,pLs cE e.l]),.o (.c (pI a))] (.o (.c (pB o))):=
 zj (zA (F:=FL [pI e.op,pI e.n,pLs cE e.l,pI a,pB v1,pI v3,pB o] []) (C:=[(1000004,.bin .eql 3 (LF (.h 0)) (LF (.k (.int .i64 2))) (LF (.h 4))),
  (10004,.fb 4 false),
  (1000014,.op (.len [28] 3) [LF (.h 2)] [] (LF (.h 5)))]) (k:=⟨23,[.o (.g [.h 0,.h 1,.h 2]),.o (.c (.h 3))],[],.o (.c (.h 6)),[]⟩) ⟨[znC],[],0⟩ [] 0 (zi ⟨zb rfl,zb rfl,(ze (zh rfl)),zb rfl,zb rfl,zb rfl,zb rfl,trivial⟩) ⟨e_bin (za rfl) zc (za rfl) (r_cmp (congrArg some e1)),
  e_fb (show pV (.bool v1)=_ by rw [h2]),
  zm (E:=31) (by kernel_rfl) (zd rfl) (za (by rw [← e3];rfl)),
  trivial⟩ mixed trivial (fun R hR p hp s hs=>by
 have hl:zW (qP Tryd.prog 23)=[(3,lp Tryd.prog 23 0)]:=by kernel_rfl
 rw [hl] at hp
 simp only [List.mem_cons,List.not_mem_nil,or_false] at hp
 rcases hp with rfl
 ·have e:s=znC:=(Option.some.inj hs).symm
  subst e;exact L_x_occurs_B R hR) (by kernel_rfl)) rfl rfl rfl rfl
theorem zoj {w0:World} {N:Nat} (IH:znx w0 N) (e:Xp) (a:Int) (r:Bool) (hr:occX a e=r) (hN:nodes e≤N+1) (hN1:N+1≤1000000):Fun (KN w0) Tryd.prog 23 [.o (.g [pI e.op,pI e.n,pLs cE e.l]),.o (.c (pI a))] (.o (.c (pB r))):=by
 obtain ⟨v1,e1⟩:∃v,((e.op == (2:Int)))=v:=⟨_,rfl⟩
 cases h2:v1 with
 | true =>
  obtain ⟨v3,e3⟩:∃v,((e.n == a))=v:=⟨_,rfl⟩
  obtain ⟨v4,e4⟩:∃v,((e.l.length:Int))=v:=⟨_,rfl⟩
  obtain ⟨o,hO_x_occurs_A⟩:∃(o:Bool),(v3 || occL a e.l)=o:=⟨_,rfl⟩
  refine Fun.imp (zoc e a N IH v1 v3 v4 o e1 e3 e4 h2 (fun R hR=>znX e a N v1 v3 v4 IH  h2 o rfl rfl rfl rfl rfl rfl rfl rfl R hR e4 (by have:=q9 e;omega) hN hO_x_occurs_A)) (fun _ _ _ h=>h) (fun v W D h=>?_)
  have r0:r=o:=by
   rw [← hr,zoo,e1,h2,e3,Bool.true_and,hO_x_occurs_A]
  rw [r0];exact h
 | false =>
  obtain ⟨v3,e3⟩:∃v,((e.l.length:Int))=v:=⟨_,rfl⟩
  obtain ⟨o,hO_x_occurs_B⟩:∃(o:Bool),(false || occL a e.l)=o:=⟨_,rfl⟩
  refine Fun.imp (zod e a N IH v1 v3 o e1 e3 h2 (fun R hR=>zn1 e a N v1 v3 IH  h2 o rfl rfl rfl rfl rfl rfl rfl R hR e3 (by have:=q9 e;omega) hN hO_x_occurs_B)) (fun _ _ _ h=>h) (fun v W D h=>?_)
  have r0:r=o:=by
   rw [← hr,zoo,e1,h2,Bool.false_and,hO_x_occurs_B]
  rw [r0];exact h
theorem znR {w0:World}:∀N:Nat,N≤1000000→znx w0 N
 | 0,_=>fun x a v _ h=>by have:=qC x;omega
 | N+1,hN=>fun x a v hv h=>zoj (znR N (by omega)) x a v hv h hN
theorem znI {w0:World} (x:Xp) (a:Int) (v:Bool) (hv:occX a x=v) (hn:nodes x≤1000000):Fun (KN w0) Tryd.prog 23 [.o (.g [pI x.op,pI x.n,pLs cE x.l]),.o (.c (pI a))] (.o (.c (pB v))):=znR (nodes x) hn x a v hv (Nat.le_refl _)
end Go.Proofs.YtdkofaajcpcjkaaDoor
namespace Go.Proofs.YtdkofaajcpcjkaaDoor
open Go.RowKit
section
variable {K:Kit} {F:Fact}
end
structure x_put_A_T where
 i:Int
 o:(List Xp)
end Go.Proofs.YtdkofaajcpcjkaaDoor
namespace Go.Proofs.YtdkofaajcpcjkaaDoor
open Go.RowKit Go.Shelf Go.Sort
section
variable {P:Program} {a:Act} {W:World} {o:Oper} {N:Act→World→Prop} {Q:Exit→Act→World→Prop}
theorem zny {ops:Array Oper} {i:Nat} {r:List Nat} (ho:ops[i]?=some o) (hw:∀y,Region.wanted o y=true) (h:o.wp P a W (wpOps P ops Q r) Q):wpOps P ops Q (i::r) a W:=by
 unfold wpOps
 rw [ho]
 simp only [hw,if_true]
 exact .inl h
theorem wp_mv {s d:Nat} (ho:o.op=.move (.tmp s)) (hd:o.dst=some d) (h:N (a.put (some d) (a.tmps.getD s undef)) W):o.wp P a W N Q:=by
 unfold Oper.wp
 simp only [execOp,ho,Sem.run_pure]
 rw [Oper.upon_value,hd];exact h
theorem zoG {T E:TypeId} {s t d q k len cap:Nat} (ho:o.op=.indexAddr T (.tmp s) (.tmp t)) (hd:o.dst=some d) (hT:P.underlying T=some (.slice E)) (hz:szOf P E=some 1) (hs:a.tmps.getD s undef=.slice (some ⟨q,0,none⟩) len cap) (ht:a.tmps.getD t undef=.int .i64 (k:Int)) (hk:k<len)
  (h:N (a.put (some d) (.pointer (some ⟨q,k,none⟩))) W):o.wp P a W N Q:=by
 unfold Oper.wp
 have e1:a.eval (.tmp s)=.slice (some ⟨q,0,none⟩) len cap:=hs
 have e2:a.eval (.tmp t)=.int .i64 (k:Int):=ht
 have hr:(Instr.indexAt T (.slice (some ⟨q,0,none⟩) len cap) (.int .i64 (k:Int))).run P W=.ok (.pointer (some ⟨q,k,none⟩)) W:=by
  have hlt:(k:Int)<(len:Int):=by omega
  simp [Instr.indexAt,asIntOf,run_underlying hT,hlt,zaj hz,zaz,hk]
 simp only [execOp,ho,e1,e2,Sem.run_bind,hr,Result.andThen_ok,Sem.run_pure]
 rw [Oper.upon_value,hd];exact h
theorem zoH {K:Kit} {T U:TypeId} {s t q k:Nat} {v:Value} {vs:Array Value} (ho:o.op=.store T (.tmp s) (.tmp t)) (hd:o.dst=none) (hz:szOf P T=some 1) (hs:a.tmps.getD s undef=.pointer (some ⟨q,k,none⟩)) (ht:a.tmps.getD t undef=v) (hv:K.ck v=true) (hh:W.heap[q]?=some (.cells vs U (0,0))) (hk:k<vs.size)
  (h:∀W',Put q (.cells (spl vs.toList k [v]).toArray U (0,0)) W W'→N a W'):o.wp P a W N Q:=by
 unfold Oper.wp
 have e1:a.eval (.tmp s)=.pointer (some ⟨q,k,none⟩):=hs
 have e2:a.eval (.tmp t)=v:=ht
 have hc:v.cells=#[v]:=zjo hv
 obtain ⟨W',hrun,hput⟩:=zdW (P:=P) (o:=k) [v] 0 W vs hh (by simp;omega) (fun u hu=>by rw [List.mem_singleton.1 hu];exact zkf hv)
 simp only [execOp,ho,e1,e2,Instr.storeAt,Instr.sureAddr,Sem.run_bind,Sem.run_pure,Result.andThen_ok,storeVar,zaj hz,hc]
 rw [if_neg (by simp)]
 rw [hrun]
 simp only [Result.andThen_ok,Sem.run_pure]
 rw [Oper.upon_skip,hd]
 exact h W' hput
end
theorem zor {l:List Int} {k:Nat} {x:Int} (h:k<l.length) {cur:List Value} {W:World} {D:Dat} (hk:okl (l.flatMap cI) (cur.take l.length) W D) (hc:k<cur.length):okl ((l.set k x).flatMap cI) ((spl cur k [Value.int .i64 x]).take l.length) W D:=by
 induction l generalizing k cur with
 | nil=>exact absurd h (Nat.not_lt_zero _)
 | cons y l ih =>
  match cur,hk with
  | v::cur,hk =>
   rw [List.length_cons,List.take_succ_cons] at hk
   cases k with
   | zero =>
    simp only [spl,List.length_cons,List.length_nil,List.take_zero,List.nil_append,List.cons_append,List.set_cons_zero,List.take_succ_cons]
    exact ⟨rfl,hk.2⟩
   | succ k =>
    have:=ih (k:=k) (by simpa using h) hk.2 (by simpa using hc)
    simp only [spl,List.length_cons,List.length_nil,List.take_succ_cons,List.cons_append,List.set_cons_succ] at this ⊢
    rw [show k+1+(0+1)=(k+(0+1))+1 by omega,List.drop_succ_cons]
    exact ⟨hk.1,this⟩
  | [],hk=>exact hk.elim
def setOk (g d1 d2 d3 d4:Nat):Atom→Bool
 | .sl s _=>s != d1 && s != d2 && s != d3 && s != d4
 | .bx b T ls=>!(Atom.bx b T ls).has g
 | .gl b T z n=>!(Atom.gl b T z n).has g
 | .gn b=>!(Atom.gn b).has g
theorem zos {g d1 d2 d3 d4:Nat} {A:Atom} (h:setOk g d1 d2 d3 d4 A=true):(∀s y,A=.sl s y→s≠d1∧s≠d2∧s≠d3∧s≠d4)∧((∀s y,A≠.sl s y)→A.has g=false):=by
 cases A with
 | sl s x =>
  simp only [setOk,Bool.and_eq_true,bne_iff_ne] at h
  exact ⟨fun t y e=>by injection e with e;subst e;exact ⟨h.1.1.1,h.1.1.2,h.1.2,h.2⟩,fun hn=>absurd rfl (hn s x)⟩
 | bx b T ls=>exact ⟨fun t y e=>(by cases e),fun _=>by simpa [setOk] using h⟩
 | gl b T z n=>exact ⟨fun t y e=>(by cases e),fun _=>by simpa [setOk] using h⟩
 | gn b=>exact ⟨fun t y e=>(by cases e),fun _=>by simpa [setOk] using h⟩
theorem znT {K:Kit} {P:Program} {F:Fact} {R:Frm} {id:Nat} {ops:Array Oper} {st:List Atom} {T E:TypeId} {g n m hk hx s1 s2 s3 d1 d2 d3 d4:Nat} {o1 o2 o3 o4 o5:Oper} {l:List Int} {k:Nat} {x:Int}
  (hops:ops=#[o1,o2,o3,o4,o5]) (hw:∀y,[o1,o2,o3,o4,o5].all (fun o=>Region.wanted o y)=true)
  (h1:o1.op=.move (.tmp s1)) (e1:o1.dst=some d1) (h2:o2.op=.move (.tmp s2)) (e2:o2.dst=some d2) (h3:o3.op=.move (.tmp s3)) (e3:o3.dst=some d3) (h4:o4.op=.indexAddr T (.tmp d1) (.tmp d2)) (e4:o4.dst=some d4) (h5:o5.op=.store E (.tmp d4) (.tmp d3)) (e5:o5.dst=none)
  (hT:P.underlying T=some (.slice E)) (hz:szOf P E=some 1) (hF:Fine K F) (hbad:K.bad .i64=false) (hn:F.g n=pG cI l) (hm:F.g m=pG cI (l.set k x)) (hfk:F.c hk=pI (k:Int)) (hfx:F.c hx=pI x) (hkl:k<l.length)
  (hs:[s1,s2,s3,d1,d2,d3,d4].all (fun s=>Nat.blt s R.pm.nt)=true) (hdis:d1≠d2∧d1≠d3∧d1≠d4∧d2≠d3∧d2≠d4∧d3≠d4∧s2≠d1∧s3≠d1∧s3≠d2)
  (hg1:Atom.sl s1 (.o (.c (.gr g)))∈st) (hg2:Atom.sl s2 (.o (.c (.h hk)))∈st) (hg3:Atom.sl s3 (.o (.c (.h hx)))∈st) (hst:st.all (setOk g d1 d2 d3 d4)=true) :
  Goes K P R (.region id ops false) F (.gl g E 1 n::st) .n F (.gl g E 1 m::st):=by
 intro Q a W hI hQ
 obtain ⟨hsz,hdf,β,hE,hA⟩:=hI
 simp only [List.all_cons,List.all_nil,Bool.and_true,Bool.and_eq_true,Nat.blt_eq,← hsz] at hs
 obtain ⟨b1,b2,b3,c1,c2,c3,c4⟩:=hs
 obtain ⟨n12,n13,n14,n23,n24,n34,n5,n6,n7⟩:=hdis
 have hgl:GL K F β g E 1 n W:=hA _ (List.mem_cons_self ..)
 have v1:a.tmps.getD s1 undef=gv β g:=hA _ (List.mem_cons_of_mem _ hg1)
 have v2:F.c hk (a.tmps.getD s2 undef) W β.D:=hA _ (List.mem_cons_of_mem _ hg2)
 have v3:F.c hx (a.tmps.getD s3 undef) W β.D:=hA _ (List.mem_cons_of_mem _ hg3)
 rw [hfk] at v2;rw [hfx] at v3
 have v2:a.tmps.getD s2 undef=.int .i64 (k:Int):=v2
 have v3:a.tmps.getD s3 undef=.int .i64 x:=v3
 obtain ⟨cap,hl⟩:=zlt (c:=cI) (fun _=>rfl) (by decide) hn hgl
 rcases hl with ⟨_,_,rfl⟩ | ⟨q,cur,hq,hgv,hh,hle,hok⟩
 ·exact absurd hkl (Nat.not_lt_zero _)
 obtain ⟨xs,ho,hxs,hmlq⟩:=hgl
 obtain ⟨hcur,hgl2,hbase,hmax⟩:cur.size=cap∧glen β g=l.length∧K.w0.heap.size≤q∧cap≤maxLen:=by
  rcases ho.2 with ⟨h,_⟩ | ⟨q',cap',cur',hv,hb',hh',_,hm',hs',_⟩
  ·rw [hgv] at h;cases h
  ·rw [hgv] at hv
   simp only [Value.slice.injEq,Option.some.injEq,Addr.mk.injEq] at hv
   obtain ⟨⟨rfl,_⟩,hvl,rfl⟩:=hv
   rw [hh] at hh'
   injection hh' with hh';injection hh' with hh'
   subst hh'
   exact ⟨by omega,hvl.symm,hb',hm'⟩
 rw [Nat.mul_one] at hok
 have hkc:k<cur.size:=by omega
 subst hops
 refine wp_region ?_
 have hw:∀o∈[o1,o2,o3,o4,o5],∀y,Region.wanted o y=true:=fun o ho y=>List.all_eq_true.1 (hw y) o ho
 refine zny (o:=o1) rfl (hw _ (by simp)) (wp_mv h1 e1 (zny (o:=o2) rfl (hw _ (by simp)) (wp_mv h2 e2 (zny (o:=o3) rfl (hw _ (by simp)) (wp_mv h3 e3 (zny (o:=o4) rfl (hw _ (by simp)) ?_))))))
 have sz:∀(a:Act) d (v:Value),(a.put (some d) v).tmps.size=a.tmps.size:=fun a d v=>by simp [Act.put]
 have g2:((a.put (some d1) (a.tmps.getD s1 undef)).tmps.getD s2 undef)=.int .i64 (k:Int):=by rw [zh9 (by simpa using Ne.symm n5)];exact v2
 rw [g2]
 have g3:(((a.put (some d1) (a.tmps.getD s1 undef)).put (some d2) (.int .i64 (k:Int))).tmps.getD s3 undef)=.int .i64 x:=by rw [zh9 (by simpa using Ne.symm n7),zh9 (by simpa using Ne.symm n6)];exact v3
 rw [g3]
 refine zoG h4 e4 hT hz (q:=q) (len:=l.length) (cap:=cap) (k:=k) ?_ ?_ hkl ?_
 ·rw [zh9 (by simpa using Ne.symm n13),zh9 (by simpa using Ne.symm n12),zjG c1,v1];exact hgv
 ·rw [zh9 (by simpa using Ne.symm n23),zjG (by rw [sz];exact c2)]
 refine zny (o:=o5) rfl (hw _ (by simp)) (zoH (K:=K) h5 e5 hz (v:=.int .i64 x) (zjG (by rw [sz,sz,sz];exact c4)) ?_ (by simp [Kit.ck,ckf,hbad]) hh hkc fun W' hput=>?_)
 ·rw [zh9 (by simpa using Ne.symm n34),zjG (by rw [sz,sz];exact c3)]
 show Q .normal _ W'
 refine hQ _ _ ?_
 have hml:∀r,r=q→Mlq K β.D W r:=by
  rintro r rfl
  exact GL.ml hE.geo ⟨xs,ho,hxs,hmlq⟩ hq
 have hO:=hput.oth
 refine ⟨by rw [sz,sz,sz,sz];exact hsz,hdf,β,⟨hE.geo.mono hml hO,hE.oth.trans hO (fun r hr hlt=>?_),hE.own,hE.same,hE.mvd,hE.dm,hE.dn⟩,fun A hAm=>?_⟩
 ·subst hr
  rcases hE.in0 hq with h | h
  ·exact h
  ·omega
 ·rcases List.mem_cons.1 hAm with rfl | hAn
  ·have hckc:cur.toList.all K.ck=true∧K.bt E=true:=by
    obtain ⟨ob,ho2,ho3⟩:=hmlq q hq
    rw [hh] at ho2;injection ho2 with ho2;subst ho2
    simp only [ml,mlf,Bool.and_eq_true] at ho3
    exact ⟨ho3.2,ho3.1⟩
   refine ⟨((spl cur.toList k [Value.int .i64 x]).take l.length),?_,?_,fun r hr=>?_⟩
   ·have hlen:(spl cur.toList k [Value.int .i64 x]).length=cur.toList.length:=zgH (by simp;omega)
    rw [hgl2]
    refine ⟨?_,.inr ⟨q,cap,(spl cur.toList k [Value.int .i64 x]).toArray,hgv,hbase,hput.here,hle,hmax,?_,?_⟩⟩
    ·rw [List.length_take,hlen,Nat.mul_one];exact Nat.min_eq_left (by simpa [hcur] using hle)
    ·rw [List.size_toArray,hlen,Array.length_toList];omega
    ·rw [Nat.mul_one]
   ·rw [hm]
    exact zbi (S:=(·=q)) hml hO (fun _ h=>h) (q7 (c:=cI) (fun y=>⟨zb (by simp [Kit.ck,ckf,hbad]),trivial⟩) _) (zor hkl hok (by simpa using hkc))
   ·have:r=q:=by rw [hq] at hr;exact (Option.some.inj hr).symm
    subst this
    refine ⟨_,hput.here,?_⟩
    simp only [ml,mlf,Bool.and_eq_true]
    exact ⟨hckc.2,zk3 hckc.1 (by simp [Kit.ck,ckf,hbad])⟩
  ·obtain ⟨p1,p2⟩:=zos (List.all_eq_true.1 hst A hAn)
   refine Atom.mv hF hml hO (fun _ h=>h) (fun s y e=>?_) (fun _ _=>Loc.same.rfl) (hA A (List.mem_cons_of_mem _ hAn)) (fun b hb hbh r hr he=>?_)
   ·obtain ⟨q1,q2,q3,q4⟩:=p1 s y e
    rw [zh9 (by simpa using Ne.symm q4),zh9 (by simpa using Ne.symm q3),zh9 (by simpa using Ne.symm q2),zh9 (by simpa using Ne.symm q1)]
   ·have hbg:b=g:=hE.geo.inj b g q (by rw [← he];exact hr) hq
    rw [hbg,p2 hb] at hbh
    cases hbh
section
variable {K:Kit} {P:Program} {F:Fact}
theorem znP {f:FuncId} {x:Cm} {res':Sh} {g n k:Nat} {E:TypeId} {l:List Int} (h:Con.sound K P F ⟨f,[.o x,.o (.c (.h k))],[],res',[]⟩) (hbad:K.bad .i64=false) (hn:F.g n=pG cI l) (hk:F.c k=pLs cI l)
  (hx:∀β β' v W,(∀q,β.D q→β'.D q)→x.ok F β v W→x.ok F β' v W) (hres:∀β β' v W,res'.ok F β v W→res'.ok F β' v W):Con.sound K P F ⟨f,[.o x,.o (.c (.gr g))],[.gl g E 1 n],res',[.gl g E 1 n]⟩:=by
 refine ⟨rfl,fun β W vs hs hp hg=>?_⟩
 have hgl:GL K F β g E 1 n W:=hp _ (List.mem_cons_self ..)
 match vs,hs with
 | [u,v],⟨h1,h2,_⟩ =>
 have h2:v=gv β g:=h2
 obtain ⟨β1,g1,g2,g3,g4,g5,g6⟩:=zD (K:=K) (F:=F) (id:=0) (ss:=[0]) (c:=cI) (T:=E) (fun _=>rfl) (by decide) (fun y=>⟨zb (by simp [Kit.ck,ckf,hbad]),trivial⟩) hn hk β ⟨#[v],[]⟩ W hg (fun A hA=>by
  simp only [List.map_cons,List.map_nil,List.mem_cons,List.not_mem_nil,or_false] at hA
  rcases hA with rfl | rfl
  ·exact hgl
  ·exact h2)
 have h3:F.c k v W β1.D:=g6 (.sl 0 (.o (.c (.h k)))) (by simp)
 refine (h.2 β1 W [u,v] ⟨hx β β1 u W g3 h1,h3,trivial⟩ (fun y hy=>by cases hy) g1).mono fun e W' hr=>?_
 obtain ⟨r,β',rfl,hb⟩:=hr
 let β2:Loc:=⟨β.bx,β.len,fun q=>β'.D q∧¬ β g=some q⟩
 have hsub:∀q,β.D q→β2.D q:=fun q hq=>⟨hb.dm q (g3 q hq),fun he=>hg.dis g q he hq⟩
 have hO:Oth (fun _=>False) W W':=⟨hb.oth.os,hb.oth.tape,hb.oth.output,hb.oth.size,fun q hq _=>hb.oth.block q hq (fun ⟨b,hb,_⟩=>by cases hb)⟩
 have hbx:∀b q,β b=some q→b≠g→β' b=some q:=fun b q hq hne=>by
  have e1:=(g2 b (by simpa using hne)).1
  have e2:=(hb.eqv b (by simp [qp])).1
  rw [e2,e1];exact hq
 refine ⟨r,β2,rfl,⟨hres _ _ _ _ hb.res,hO.mono fun _ h=>h.elim,fun y hy=>?_,fun b _=>Loc.same.rfl,hsub,fun q hq=>?_,fun b _ q hq=>.inl hq,⟨fun b q hq=>Nat.lt_of_lt_of_le (hg.lt b q hq) hO.size,hg.inj,hb.geo.bel,fun b q hq hD=>?_,fun q hq=>hb.geo.dlt q hq.1,fun q hq=>hsub q (hg.low q hq)⟩⟩⟩
 ·rw [List.mem_singleton] at hy
  subst hy
  obtain ⟨xs,ho,hxs,hm⟩:=hgl
  have hbl:∀q,β g=some q→W'.heap[q]?=W.heap[q]?:=fun q hq=>hO.block q (hg.lt g q hq) id
  refine ⟨xs,⟨ho.1,ho.2.imp id ?_⟩,?_,fun q hq=>?_⟩
  ·rintro ⟨q,cap,cur,hv,hb',hh,hr⟩
   refine ⟨q,cap,cur,hv,hb',?_,hr⟩
   rw [hbl q ?_];exact hh
   have hv:gv β g=_:=hv
   unfold gv at hv
   split at hv
   ·cases hv
   ·rename_i q' hq'
    simp only [Value.slice.injEq,Option.some.injEq,Addr.mk.injEq] at hv
    rw [hq',hv.1.1]
  ·rw [hn] at hxs ⊢
   exact zbi (K:=K) (S:=fun _=>False) (fun _ h=>h.elim) hO hsub (q7 (c:=cI) (fun y=>⟨zb (by simp [Kit.ck,ckf,hbad]),trivial⟩) _) hxs
  ·rw [hbl q hq];exact hm q hq
 ·rcases hb.dn q hq.1 with h | h
  ·rcases g4 q h with h | ⟨c,hc,h⟩
   ·exact .inl h
   ·rw [List.mem_singleton] at hc;subst hc;exact absurd h hq.2
  ·exact .inr h
 ·by_cases hbg:b=g
  ·subst hbg;exact hD.2 hq
  ·exact hb.geo.dis b q (hbx b q hq hbg) hD.1
 | [],h=>exact h.elim
 | [_],h=>exact h.2.elim
 | _::_::_::_,h=>exact h.2.2.elim
theorem znF {w0:World} {F:Fact} {i j m:Nat} {a b:Int} {l:List Xp} (hi:F.c i=pI a) (hj:F.c j=pI b) (hm:F.c m=pLs cE l) (β β':Loc) (v:Value) (W:World) (hD:∀q,β.D q→β'.D q) (h:(Cm.g [.h i,.h j,.h m]).ok F β v W):(Cm.g [.h i,.h j,.h m]).ok F β' v W:=by
 obtain ⟨vs,e,h⟩:=h
 refine ⟨vs,e,?_⟩
 match vs.toList,h with
 | [x,y,z],⟨h1,h2,h3,_⟩ =>
  have h1:F.c i x W β.D:=h1
  have h2:F.c j y W β.D:=h2
  have h3:F.c m z W β.D:=h3
  refine ⟨?_,?_,?_,trivial⟩
  ·show F.c i x W β'.D
   rw [hi] at h1 ⊢;exact h1
  ·show F.c j y W β'.D
   rw [hj] at h2 ⊢;exact h2
  ·show F.c m z W β'.D
   rw [hm] at h3 ⊢
   exact (ze (K:=KN w0) (zh rfl)).mv (S:=fun _=>False) (fun _ h=>h.elim) (Oth.refl _ W) hD h3
theorem znQ {F:Fact} {i j:Nat} {a b:Int} (hi:F.c i=pI a) (hj:F.c j=pI b) (β β':Loc) (v:Value) (W:World) (h:(Sh.t [.c (.h i),.c (.h j)]).ok F β v W):(Sh.t [.c (.h i),.c (.h j)]).ok F β' v W:=by
 obtain ⟨vs,e,h⟩:=h
 refine ⟨vs,e,?_⟩
 match vs.toList,h with
 | [x,y],⟨h1,h2,_⟩ =>
  have h1:F.c i x W β.D:=h1
  have h2:F.c j y W β.D:=h2
  refine ⟨?_,?_,trivial⟩
  ·show F.c i x W β'.D
   rw [hi] at h1 ⊢;exact h1
  ·show F.c j y W β'.D
   rw [hj] at h2 ⊢;exact h2
end
end Go.Proofs.YtdkofaajcpcjkaaDoor
