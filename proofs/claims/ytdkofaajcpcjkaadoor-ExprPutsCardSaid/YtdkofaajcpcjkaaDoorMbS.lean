/-
  Merged: ExU, ExPt.
-/
import Derived.Test.YtdkofaajcpcjkaaDoorMbR
import Derived.Test.YtdkofaajcpcjkaaDoorMbE
set_option linter.unusedSimpArgs false
set_option linter.unusedVariables false
set_option maxRecDepth 100000
namespace Go.Proofs.YtdkofaajcpcjkaaDoor
open Go.RowKit
def qD (w0:World) (N:Nat):Prop:=∀(g D:Int) (l:List Int) (a:Int) (e:Xp) (p:Int),(madeX g D.toNat (l.drop a.toNat)).1=e→posA l (madeX g D.toNat (l.drop a.toNat)).2=p→0≤D∧D.toNat<N→0≤g∧g≤4→0≤a∧a≤l.length→l.length<9223372036854775807 →
 BFun false (KN w0) Tryd.prog 55 [.o (.c (.p 0 0)),.o (.c (.d (pI g))),.o (.c (.d (pI D)))] [(79,[.d (pLs cI l),.d (pI a)])] (.o (.g [.d (pI e.op),.d (pI e.n),.d (pLs cE e.l)])) [(79,[.d (pLs cI l),.d (pI p)])]
theorem zbW {g D:Int} {L:List Int} (h:D=0∨(drawX L 10).1<4) (hx:(drawX L 10).1%2=1) (hg:0<g):madeX g D.toNat L=(.mk 2 (drawX (drawX L 10).2 g).1 [],(drawX (drawX L 10).2 g).2):=by
 cases hd:D.toNat with
 | zero=>rw [madeX,if_pos ⟨hx,hg⟩]
 | succ d=>rw [madeX,if_pos (h.resolve_left (by omega)),if_pos ⟨hx,hg⟩]
theorem zah {g D:Int} {L:List Int} (h:D=0∨(drawX L 10).1<4) (hx:¬ ((drawX L 10).1%2=1∧0<g)):madeX g D.toNat L=(.mk 1 ((drawX (drawX L 10).2 17).1 - 8) [],(drawX (drawX L 10).2 17).2):=by
 cases hd:D.toNat with
 | zero=>rw [madeX,if_neg hx]
 | succ d=>rw [madeX,if_pos (h.resolve_left (by omega)),if_neg hx]
theorem zhU {g D:Int} {L:List Int} (h:0<D) (hx:¬ (drawX L 10).1<4):madeX g D.toNat L=(.mk (3+(drawX (drawX L 10).2 5).1) 0 [(madeX g (D - 1).toNat (drawX (drawX L 10).2 5).2).1,(madeX g (D - 1).toNat (madeX g (D - 1).toNat (drawX (drawX L 10).2 5).2).2).1],(madeX g (D - 1).toNat (madeX g (D - 1).toNat (drawX (drawX L 10).2 5).2).2).2):=by
 rw [show D.toNat=(D - 1).toNat+1 by omega,madeX,if_neg hx]
theorem ziL {w0:World} (l:(List Int)) (a:Int) (g:Int) (D:Int) (N:Nat) (IH:qD w0 N) (v1:Int) (v2:Int) (v5:Bool) (v7:Int) (v8:Bool) (v10:Bool) (v12:Int) (v13:Int) (e1:((drawX (l.drop (a:Int).toNat) (10:Int)).1)=v1) (e2:(posA l (drawX (l.drop (a:Int).toNat) (10:Int)).2)=v2) (e5:((D == (0:Int)))=v5) (e7:((v1:Int).tmod (2:Int))=v7) (e8:((v7 == (1:Int)))=v8) (e10:(decide (g > (0:Int)))=v10) (e12:((drawX (l.drop (v2:Int).toNat) g).1)=v12) (e13:(posA l (drawX (l.drop (v2:Int).toNat) g).2)=v13) (s3:0≤a∧a≤l.length) (s4:l.length<9223372036854775807) (h6:v5=true) (h9:v8=true) (h11:v10=true) (s14:0≤v2∧v2≤l.length) (s15:l.length<9223372036854775807):BFun false (KN w0) Tryd.prog 55 [.o (.c (.p 0 0)),.o (.c (.d (pI g))),.o (.c (.d (pI D)))] [(79,[.d (pLs cI l),.d (pI a)])] (.o (.g [.d (pV (.int .i64 2)),.d (pI v12),.d (pV (.slice none 0 0))])) [(79,[.d (pLs cI l),.d (pI v13)])] :=
 con_b (pan:=false) (zl (F:=FL [pLs cI l,pI a,pI g,pI D,pI v1,pI v2,pB v5,pI v7,pB v8,pB v10,pI v12,pI v13] []) (C:=[(1000002,.call ⟨72,[.o (.c (.p 900 0)),.o (.c (.k (.int .i64 10)))],[.bx 900 79 [.h 0,.h 1]],.o (.c (.h 4)),[.bx 900 79 [.h 0,.h 5]]⟩),
  (1000005,.bin .eql 3 (LF (.h 3)) (LF (.k (.int .i64 0))) (LF (.h 6))),
  (10006,.fb 6 true),
  (1000011,.bin .rem 3 (LF (.h 4)) (LF (.k (.int .i64 2))) (LF (.h 7))),
  (1000012,.bin .eql 3 (LF (.h 7)) (LF (.k (.int .i64 1))) (LF (.h 8))),
  (10008,.fb 8 true),
  (1000015,.bin .gtr 3 (LF (.h 2)) (LF (.k (.int .i64 0))) (LF (.h 9))),
  (10009,.fb 9 true),
  (1000019,.call ⟨72,[.o (.c (.p 900 0)),.o (.c (.h 2))],[.bx 900 79 [.h 0,.h 5]],.o (.c (.h 10)),[.bx 900 79 [.h 0,.h 11]]⟩)]) (k:=⟨55,[.o (.c (.p 900 0)),.o (.c (.h 2)),.o (.c (.h 3))],[.bx 900 79 [.h 0,.h 1]],.o (.g [.k (.int .i64 2),.h 10,.k (.slice none 0 0)]),[.bx 900 79 [.h 0,.h 11]]⟩) 0 (zi ⟨(ze zf),zb rfl,zb rfl,zb rfl,zb rfl,zb rfl,zb rfl,zb rfl,zb rfl,zb rfl,zb rfl,zb rfl,trivial⟩) ⟨b_con (pan:=false) (qE (10:Int) l a v1 v2 e1 e2 s3 s4) (by kernel_rfl) rfl rfl rfl rfl,
  e_bin (za rfl) zc (za rfl) (r_cmp (congrArg some e5)),
  e_fb (show pV (.bool v5)=_ by rw [h6]),
  e_bin (za rfl) zc (za rfl) (r_ar ((zU (by decide)).trans (congrArg some e7))),
  e_bin (za rfl) zc (za rfl) (r_cmp (congrArg some e8)),
  e_fb (show pV (.bool v8)=_ by rw [h9]),
  e_bin (za rfl) zc (za rfl) (r_cmp (congrArg some e10)),
  e_fb (show pV (.bool v10)=_ by rw [h11]),
  b_con (pan:=false) (qE g l v2 v12 v13 e12 e13 s14 s15) (by kernel_rfl) rfl rfl rfl rfl,
  trivial⟩ mixed (by kernel_rfl)) (by kernel_rfl) rfl rfl rfl rfl
theorem ziM {w0:World} (l:(List Int)) (a:Int) (g:Int) (D:Int) (N:Nat) (IH:qD w0 N) (v1:Int) (v2:Int) (v5:Bool) (v7:Int) (v8:Bool) (v10:Bool) (v12:Int) (v13:Int) (v16:Int) (e1:((drawX (l.drop (a:Int).toNat) (10:Int)).1)=v1) (e2:(posA l (drawX (l.drop (a:Int).toNat) (10:Int)).2)=v2) (e5:((D == (0:Int)))=v5) (e7:((v1:Int).tmod (2:Int))=v7) (e8:((v7 == (1:Int)))=v8) (e10:(decide (g > (0:Int)))=v10) (e12:((drawX (l.drop (v2:Int).toNat) (17:Int)).1)=v12) (e13:(posA l (drawX (l.drop (v2:Int).toNat) (17:Int)).2)=v13) (e16:(IntKind.i64.wrap (v12 - (8:Int)))=v16) (s3:0≤a∧a≤l.length) (s4:l.length<9223372036854775807) (h6:v5=true) (h9:v8=true) (h11:v10=false) (s14:0≤v2∧v2≤l.length) (s15:l.length<9223372036854775807):BFun false (KN w0) Tryd.prog 55 [.o (.c (.p 0 0)),.o (.c (.d (pI g))),.o (.c (.d (pI D)))] [(79,[.d (pLs cI l),.d (pI a)])] (.o (.g [.d (pV (.int .i64 1)),.d (pI v16),.d (pV (.slice none 0 0))])) [(79,[.d (pLs cI l),.d (pI v13)])] :=
 con_b (pan:=false) (zl (F:=FL [pLs cI l,pI a,pI g,pI D,pI v1,pI v2,pB v5,pI v7,pB v8,pB v10,pI v12,pI v13,pI v16] []) (C:=[(1000002,.call ⟨72,[.o (.c (.p 900 0)),.o (.c (.k (.int .i64 10)))],[.bx 900 79 [.h 0,.h 1]],.o (.c (.h 4)),[.bx 900 79 [.h 0,.h 5]]⟩),
  (1000005,.bin .eql 3 (LF (.h 3)) (LF (.k (.int .i64 0))) (LF (.h 6))),
  (10006,.fb 6 true),
  (1000011,.bin .rem 3 (LF (.h 4)) (LF (.k (.int .i64 2))) (LF (.h 7))),
  (1000012,.bin .eql 3 (LF (.h 7)) (LF (.k (.int .i64 1))) (LF (.h 8))),
  (10008,.fb 8 true),
  (1000015,.bin .gtr 3 (LF (.h 2)) (LF (.k (.int .i64 0))) (LF (.h 9))),
  (10009,.fb 9 false),
  (1000018,.call ⟨72,[.o (.c (.p 900 0)),.o (.c (.k (.int .i64 17)))],[.bx 900 79 [.h 0,.h 5]],.o (.c (.h 10)),[.bx 900 79 [.h 0,.h 11]]⟩),
  (1000019,.bin .sub 3 (LF (.h 10)) (LF (.k (.int .i64 8))) (LF (.h 12)))]) (k:=⟨55,[.o (.c (.p 900 0)),.o (.c (.h 2)),.o (.c (.h 3))],[.bx 900 79 [.h 0,.h 1]],.o (.g [.k (.int .i64 1),.h 12,.k (.slice none 0 0)]),[.bx 900 79 [.h 0,.h 11]]⟩) 0 (zi ⟨(ze zf),zb rfl,zb rfl,zb rfl,zb rfl,zb rfl,zb rfl,zb rfl,zb rfl,zb rfl,zb rfl,zb rfl,zb rfl,trivial⟩) ⟨b_con (pan:=false) (qE (10:Int) l a v1 v2 e1 e2 s3 s4) (by kernel_rfl) rfl rfl rfl rfl,
  e_bin (za rfl) zc (za rfl) (r_cmp (congrArg some e5)),
  e_fb (show pV (.bool v5)=_ by rw [h6]),
  e_bin (za rfl) zc (za rfl) (r_ar ((zU (by decide)).trans (congrArg some e7))),
  e_bin (za rfl) zc (za rfl) (r_cmp (congrArg some e8)),
  e_fb (show pV (.bool v8)=_ by rw [h9]),
  e_bin (za rfl) zc (za rfl) (r_cmp (congrArg some e10)),
  e_fb (show pV (.bool v10)=_ by rw [h11]),
  b_con (pan:=false) (qE (17:Int) l v2 v12 v13 e12 e13 s14 s15) (by kernel_rfl) rfl rfl rfl rfl,
  e_bin (za rfl) zc (za rfl) (r_ar (congrArg some e16)),
  trivial⟩ mixed (by kernel_rfl)) (by kernel_rfl) rfl rfl rfl rfl
theorem ziN {w0:World} (l:(List Int)) (a:Int) (g:Int) (D:Int) (N:Nat) (IH:qD w0 N) (v1:Int) (v2:Int) (v5:Bool) (v7:Int) (v8:Bool) (v10:Int) (v11:Int) (v14:Int) (e1:((drawX (l.drop (a:Int).toNat) (10:Int)).1)=v1) (e2:(posA l (drawX (l.drop (a:Int).toNat) (10:Int)).2)=v2) (e5:((D == (0:Int)))=v5) (e7:((v1:Int).tmod (2:Int))=v7) (e8:((v7 == (1:Int)))=v8) (e10:((drawX (l.drop (v2:Int).toNat) (17:Int)).1)=v10) (e11:(posA l (drawX (l.drop (v2:Int).toNat) (17:Int)).2)=v11) (e14:(IntKind.i64.wrap (v10 - (8:Int)))=v14) (s3:0≤a∧a≤l.length) (s4:l.length<9223372036854775807) (h6:v5=true) (h9:v8=false) (s12:0≤v2∧v2≤l.length) (s13:l.length<9223372036854775807):BFun false (KN w0) Tryd.prog 55 [.o (.c (.p 0 0)),.o (.c (.d (pI g))),.o (.c (.d (pI D)))] [(79,[.d (pLs cI l),.d (pI a)])] (.o (.g [.d (pV (.int .i64 1)),.d (pI v14),.d (pV (.slice none 0 0))])) [(79,[.d (pLs cI l),.d (pI v11)])] :=
 con_b (pan:=false) (zl (F:=FL [pLs cI l,pI a,pI g,pI D,pI v1,pI v2,pB v5,pI v7,pB v8,pI v10,pI v11,pI v14] []) (C:=[(1000002,.call ⟨72,[.o (.c (.p 900 0)),.o (.c (.k (.int .i64 10)))],[.bx 900 79 [.h 0,.h 1]],.o (.c (.h 4)),[.bx 900 79 [.h 0,.h 5]]⟩),
  (1000005,.bin .eql 3 (LF (.h 3)) (LF (.k (.int .i64 0))) (LF (.h 6))),
  (10006,.fb 6 true),
  (1000011,.bin .rem 3 (LF (.h 4)) (LF (.k (.int .i64 2))) (LF (.h 7))),
  (1000012,.bin .eql 3 (LF (.h 7)) (LF (.k (.int .i64 1))) (LF (.h 8))),
  (10008,.fb 8 false),
  (1000018,.call ⟨72,[.o (.c (.p 900 0)),.o (.c (.k (.int .i64 17)))],[.bx 900 79 [.h 0,.h 5]],.o (.c (.h 9)),[.bx 900 79 [.h 0,.h 10]]⟩),
  (1000019,.bin .sub 3 (LF (.h 9)) (LF (.k (.int .i64 8))) (LF (.h 11)))]) (k:=⟨55,[.o (.c (.p 900 0)),.o (.c (.h 2)),.o (.c (.h 3))],[.bx 900 79 [.h 0,.h 1]],.o (.g [.k (.int .i64 1),.h 11,.k (.slice none 0 0)]),[.bx 900 79 [.h 0,.h 10]]⟩) 0 (zi ⟨(ze zf),zb rfl,zb rfl,zb rfl,zb rfl,zb rfl,zb rfl,zb rfl,zb rfl,zb rfl,zb rfl,zb rfl,trivial⟩) ⟨b_con (pan:=false) (qE (10:Int) l a v1 v2 e1 e2 s3 s4) (by kernel_rfl) rfl rfl rfl rfl,
  e_bin (za rfl) zc (za rfl) (r_cmp (congrArg some e5)),
  e_fb (show pV (.bool v5)=_ by rw [h6]),
  e_bin (za rfl) zc (za rfl) (r_ar ((zU (by decide)).trans (congrArg some e7))),
  e_bin (za rfl) zc (za rfl) (r_cmp (congrArg some e8)),
  e_fb (show pV (.bool v8)=_ by rw [h9]),
  b_con (pan:=false) (qE (17:Int) l v2 v10 v11 e10 e11 s12 s13) (by kernel_rfl) rfl rfl rfl rfl,
  e_bin (za rfl) zc (za rfl) (r_ar (congrArg some e14)),
  trivial⟩ mixed (by kernel_rfl)) (by kernel_rfl) rfl rfl rfl rfl
theorem ziO {w0:World} (l:(List Int)) (a:Int) (g:Int) (D:Int) (N:Nat) (IH:qD w0 N) (v1:Int) (v2:Int) (v5:Bool) (v7:Bool) (v9:Int) (v10:Bool) (v12:Bool) (v14:Int) (v15:Int) (e1:((drawX (l.drop (a:Int).toNat) (10:Int)).1)=v1) (e2:(posA l (drawX (l.drop (a:Int).toNat) (10:Int)).2)=v2) (e5:((D == (0:Int)))=v5) (e7:(decide (v1<(4:Int)))=v7) (e9:((v1:Int).tmod (2:Int))=v9) (e10:((v9 == (1:Int)))=v10) (e12:(decide (g > (0:Int)))=v12) (e14:((drawX (l.drop (v2:Int).toNat) g).1)=v14) (e15:(posA l (drawX (l.drop (v2:Int).toNat) g).2)=v15) (s3:0≤a∧a≤l.length) (s4:l.length<9223372036854775807) (h6:v5=false) (h8:v7=true) (h11:v10=true) (h13:v12=true) (s16:0≤v2∧v2≤l.length) (s17:l.length<9223372036854775807):BFun false (KN w0) Tryd.prog 55 [.o (.c (.p 0 0)),.o (.c (.d (pI g))),.o (.c (.d (pI D)))] [(79,[.d (pLs cI l),.d (pI a)])] (.o (.g [.d (pV (.int .i64 2)),.d (pI v14),.d (pV (.slice none 0 0))])) [(79,[.d (pLs cI l),.d (pI v15)])] :=
 con_b (pan:=false) (zl (F:=FL [pLs cI l,pI a,pI g,pI D,pI v1,pI v2,pB v5,pB v7,pI v9,pB v10,pB v12,pI v14,pI v15] []) (C:=[(1000002,.call ⟨72,[.o (.c (.p 900 0)),.o (.c (.k (.int .i64 10)))],[.bx 900 79 [.h 0,.h 1]],.o (.c (.h 4)),[.bx 900 79 [.h 0,.h 5]]⟩),
  (1000005,.bin .eql 3 (LF (.h 3)) (LF (.k (.int .i64 0))) (LF (.h 6))),
  (10006,.fb 6 false),
  (1000008,.bin .lss 3 (LF (.h 4)) (LF (.k (.int .i64 4))) (LF (.h 7))),
  (10007,.fb 7 true),
  (1000011,.bin .rem 3 (LF (.h 4)) (LF (.k (.int .i64 2))) (LF (.h 8))),
  (1000012,.bin .eql 3 (LF (.h 8)) (LF (.k (.int .i64 1))) (LF (.h 9))),
  (10009,.fb 9 true),
  (1000015,.bin .gtr 3 (LF (.h 2)) (LF (.k (.int .i64 0))) (LF (.h 10))),
  (10010,.fb 10 true),
  (1000019,.call ⟨72,[.o (.c (.p 900 0)),.o (.c (.h 2))],[.bx 900 79 [.h 0,.h 5]],.o (.c (.h 11)),[.bx 900 79 [.h 0,.h 12]]⟩)]) (k:=⟨55,[.o (.c (.p 900 0)),.o (.c (.h 2)),.o (.c (.h 3))],[.bx 900 79 [.h 0,.h 1]],.o (.g [.k (.int .i64 2),.h 11,.k (.slice none 0 0)]),[.bx 900 79 [.h 0,.h 12]]⟩) 0 (zi ⟨(ze zf),zb rfl,zb rfl,zb rfl,zb rfl,zb rfl,zb rfl,zb rfl,zb rfl,zb rfl,zb rfl,zb rfl,zb rfl,trivial⟩) ⟨b_con (pan:=false) (qE (10:Int) l a v1 v2 e1 e2 s3 s4) (by kernel_rfl) rfl rfl rfl rfl,
  e_bin (za rfl) zc (za rfl) (r_cmp (congrArg some e5)),
  e_fb (show pV (.bool v5)=_ by rw [h6]),
  e_bin (za rfl) zc (za rfl) (r_cmp (congrArg some e7)),
  e_fb (show pV (.bool v7)=_ by rw [h8]),
  e_bin (za rfl) zc (za rfl) (r_ar ((zU (by decide)).trans (congrArg some e9))),
  e_bin (za rfl) zc (za rfl) (r_cmp (congrArg some e10)),
  e_fb (show pV (.bool v10)=_ by rw [h11]),
  e_bin (za rfl) zc (za rfl) (r_cmp (congrArg some e12)),
  e_fb (show pV (.bool v12)=_ by rw [h13]),
  b_con (pan:=false) (qE g l v2 v14 v15 e14 e15 s16 s17) (by kernel_rfl) rfl rfl rfl rfl,
  trivial⟩ mixed (by kernel_rfl)) (by kernel_rfl) rfl rfl rfl rfl
theorem ziP {w0:World} (l:(List Int)) (a:Int) (g:Int) (D:Int) (N:Nat) (IH:qD w0 N) (v1:Int) (v2:Int) (v5:Bool) (v7:Bool) (v9:Int) (v10:Bool) (v12:Bool) (v14:Int) (v15:Int) (v18:Int) (e1:((drawX (l.drop (a:Int).toNat) (10:Int)).1)=v1) (e2:(posA l (drawX (l.drop (a:Int).toNat) (10:Int)).2)=v2) (e5:((D == (0:Int)))=v5) (e7:(decide (v1<(4:Int)))=v7) (e9:((v1:Int).tmod (2:Int))=v9) (e10:((v9 == (1:Int)))=v10) (e12:(decide (g > (0:Int)))=v12) (e14:((drawX (l.drop (v2:Int).toNat) (17:Int)).1)=v14) (e15:(posA l (drawX (l.drop (v2:Int).toNat) (17:Int)).2)=v15) (e18:(IntKind.i64.wrap (v14 - (8:Int)))=v18) (s3:0≤a∧a≤l.length) (s4:l.length<9223372036854775807) (h6:v5=false) (h8:v7=true) (h11:v10=true) (h13:v12=false) (s16:0≤v2∧v2≤l.length) (s17:l.length<9223372036854775807):BFun false (KN w0) Tryd.prog 55 [.o (.c (.p 0 0)),.o (.c (.d (pI g))),.o (.c (.d (pI D)))] [(79,[.d (pLs cI l),.d (pI a)])] (.o (.g [.d (pV (.int .i64 1)),.d (pI v18),.d (pV (.slice none 0 0))])) [(79,[.d (pLs cI l),.d (pI v15)])] :=
 con_b (pan:=false) (zl (F:=FL [pLs cI l,pI a,pI g,pI D,pI v1,pI v2,pB v5,pB v7,pI v9,pB v10,pB v12,pI v14,pI v15,pI v18] []) (C:=[(1000002,.call ⟨72,[.o (.c (.p 900 0)),.o (.c (.k (.int .i64 10)))],[.bx 900 79 [.h 0,.h 1]],.o (.c (.h 4)),[.bx 900 79 [.h 0,.h 5]]⟩),
  (1000005,.bin .eql 3 (LF (.h 3)) (LF (.k (.int .i64 0))) (LF (.h 6))),
  (10006,.fb 6 false),
  (1000008,.bin .lss 3 (LF (.h 4)) (LF (.k (.int .i64 4))) (LF (.h 7))),
  (10007,.fb 7 true),
  (1000011,.bin .rem 3 (LF (.h 4)) (LF (.k (.int .i64 2))) (LF (.h 8))),
  (1000012,.bin .eql 3 (LF (.h 8)) (LF (.k (.int .i64 1))) (LF (.h 9))),
  (10009,.fb 9 true),
  (1000015,.bin .gtr 3 (LF (.h 2)) (LF (.k (.int .i64 0))) (LF (.h 10))),
  (10010,.fb 10 false),
  (1000018,.call ⟨72,[.o (.c (.p 900 0)),.o (.c (.k (.int .i64 17)))],[.bx 900 79 [.h 0,.h 5]],.o (.c (.h 11)),[.bx 900 79 [.h 0,.h 12]]⟩),
  (1000019,.bin .sub 3 (LF (.h 11)) (LF (.k (.int .i64 8))) (LF (.h 13)))]) (k:=⟨55,[.o (.c (.p 900 0)),.o (.c (.h 2)),.o (.c (.h 3))],[.bx 900 79 [.h 0,.h 1]],.o (.g [.k (.int .i64 1),.h 13,.k (.slice none 0 0)]),[.bx 900 79 [.h 0,.h 12]]⟩) 0 (zi ⟨(ze zf),zb rfl,zb rfl,zb rfl,zb rfl,zb rfl,zb rfl,zb rfl,zb rfl,zb rfl,zb rfl,zb rfl,zb rfl,zb rfl,trivial⟩) ⟨b_con (pan:=false) (qE (10:Int) l a v1 v2 e1 e2 s3 s4) (by kernel_rfl) rfl rfl rfl rfl,
  e_bin (za rfl) zc (za rfl) (r_cmp (congrArg some e5)),
  e_fb (show pV (.bool v5)=_ by rw [h6]),
  e_bin (za rfl) zc (za rfl) (r_cmp (congrArg some e7)),
  e_fb (show pV (.bool v7)=_ by rw [h8]),
  e_bin (za rfl) zc (za rfl) (r_ar ((zU (by decide)).trans (congrArg some e9))),
  e_bin (za rfl) zc (za rfl) (r_cmp (congrArg some e10)),
  e_fb (show pV (.bool v10)=_ by rw [h11]),
  e_bin (za rfl) zc (za rfl) (r_cmp (congrArg some e12)),
  e_fb (show pV (.bool v12)=_ by rw [h13]),
  b_con (pan:=false) (qE (17:Int) l v2 v14 v15 e14 e15 s16 s17) (by kernel_rfl) rfl rfl rfl rfl,
  e_bin (za rfl) zc (za rfl) (r_ar (congrArg some e18)),
  trivial⟩ mixed (by kernel_rfl)) (by kernel_rfl) rfl rfl rfl rfl
theorem ziQ {w0:World} (l:(List Int)) (a:Int) (g:Int) (D:Int) (N:Nat) (IH:qD w0 N) (v1:Int) (v2:Int) (v5:Bool) (v7:Bool) (v9:Int) (v10:Bool) (v12:Int) (v13:Int) (v16:Int) (e1:((drawX (l.drop (a:Int).toNat) (10:Int)).1)=v1) (e2:(posA l (drawX (l.drop (a:Int).toNat) (10:Int)).2)=v2) (e5:((D == (0:Int)))=v5) (e7:(decide (v1<(4:Int)))=v7) (e9:((v1:Int).tmod (2:Int))=v9) (e10:((v9 == (1:Int)))=v10) (e12:((drawX (l.drop (v2:Int).toNat) (17:Int)).1)=v12) (e13:(posA l (drawX (l.drop (v2:Int).toNat) (17:Int)).2)=v13) (e16:(IntKind.i64.wrap (v12 - (8:Int)))=v16) (s3:0≤a∧a≤l.length) (s4:l.length<9223372036854775807) (h6:v5=false) (h8:v7=true) (h11:v10=false) (s14:0≤v2∧v2≤l.length) (s15:l.length<9223372036854775807):BFun false (KN w0) Tryd.prog 55 [.o (.c (.p 0 0)),.o (.c (.d (pI g))),.o (.c (.d (pI D)))] [(79,[.d (pLs cI l),.d (pI a)])] (.o (.g [.d (pV (.int .i64 1)),.d (pI v16),.d (pV (.slice none 0 0))])) [(79,[.d (pLs cI l),.d (pI v13)])] :=
 con_b (pan:=false) (zl (F:=FL [pLs cI l,pI a,pI g,pI D,pI v1,pI v2,pB v5,pB v7,pI v9,pB v10,pI v12,pI v13,pI v16] []) (C:=[(1000002,.call ⟨72,[.o (.c (.p 900 0)),.o (.c (.k (.int .i64 10)))],[.bx 900 79 [.h 0,.h 1]],.o (.c (.h 4)),[.bx 900 79 [.h 0,.h 5]]⟩),
  (1000005,.bin .eql 3 (LF (.h 3)) (LF (.k (.int .i64 0))) (LF (.h 6))),
  (10006,.fb 6 false),
  (1000008,.bin .lss 3 (LF (.h 4)) (LF (.k (.int .i64 4))) (LF (.h 7))),
  (10007,.fb 7 true),
  (1000011,.bin .rem 3 (LF (.h 4)) (LF (.k (.int .i64 2))) (LF (.h 8))),
  (1000012,.bin .eql 3 (LF (.h 8)) (LF (.k (.int .i64 1))) (LF (.h 9))),
  (10009,.fb 9 false),
  (1000018,.call ⟨72,[.o (.c (.p 900 0)),.o (.c (.k (.int .i64 17)))],[.bx 900 79 [.h 0,.h 5]],.o (.c (.h 10)),[.bx 900 79 [.h 0,.h 11]]⟩),
  (1000019,.bin .sub 3 (LF (.h 10)) (LF (.k (.int .i64 8))) (LF (.h 12)))]) (k:=⟨55,[.o (.c (.p 900 0)),.o (.c (.h 2)),.o (.c (.h 3))],[.bx 900 79 [.h 0,.h 1]],.o (.g [.k (.int .i64 1),.h 12,.k (.slice none 0 0)]),[.bx 900 79 [.h 0,.h 11]]⟩) 0 (zi ⟨(ze zf),zb rfl,zb rfl,zb rfl,zb rfl,zb rfl,zb rfl,zb rfl,zb rfl,zb rfl,zb rfl,zb rfl,zb rfl,trivial⟩) ⟨b_con (pan:=false) (qE (10:Int) l a v1 v2 e1 e2 s3 s4) (by kernel_rfl) rfl rfl rfl rfl,
  e_bin (za rfl) zc (za rfl) (r_cmp (congrArg some e5)),
  e_fb (show pV (.bool v5)=_ by rw [h6]),
  e_bin (za rfl) zc (za rfl) (r_cmp (congrArg some e7)),
  e_fb (show pV (.bool v7)=_ by rw [h8]),
  e_bin (za rfl) zc (za rfl) (r_ar ((zU (by decide)).trans (congrArg some e9))),
  e_bin (za rfl) zc (za rfl) (r_cmp (congrArg some e10)),
  e_fb (show pV (.bool v10)=_ by rw [h11]),
  b_con (pan:=false) (qE (17:Int) l v2 v12 v13 e12 e13 s14 s15) (by kernel_rfl) rfl rfl rfl rfl,
  e_bin (za rfl) zc (za rfl) (r_ar (congrArg some e16)),
  trivial⟩ mixed (by kernel_rfl)) (by kernel_rfl) rfl rfl rfl rfl
theorem ziR {w0:World} (l:(List Int)) (a:Int) (g:Int) (D:Int) (N:Nat) (IH:qD w0 N) (v1:Int) (v2:Int) (v5:Bool) (v7:Bool) (v9:Int) (v10:Int) (v13:Int) (v14:Int) (v15:Xp) (v16:Int) (v21:Int) (v22:Xp) (v23:Int) (v28:(List Xp)) (e1:((drawX (l.drop (a:Int).toNat) (10:Int)).1)=v1) (e2:(posA l (drawX (l.drop (a:Int).toNat) (10:Int)).2)=v2) (e5:((D == (0:Int)))=v5) (e7:(decide (v1<(4:Int)))=v7) (e9:((drawX (l.drop (v2:Int).toNat) (5:Int)).1)=v9) (e10:(posA l (drawX (l.drop (v2:Int).toNat) (5:Int)).2)=v10) (e13:(IntKind.i64.wrap ((3:Int)+v9))=v13) (e14:(IntKind.i64.wrap (D - (1:Int)))=v14) (e15:((madeX g (v14:Int).toNat (l.drop (v10:Int).toNat)).1)=v15) (e16:(posA l (madeX g (v14:Int).toNat (l.drop (v10:Int).toNat)).2)=v16) (e21:(IntKind.i64.wrap (D - (1:Int)))=v21) (e22:((madeX g (v21:Int).toNat (l.drop (v16:Int).toNat)).1)=v22) (e23:(posA l (madeX g (v21:Int).toNat (l.drop (v16:Int).toNat)).2)=v23) (e28:(([v15,v22]:List Xp))=v28) (s3:0≤a∧a≤l.length) (s4:l.length<9223372036854775807) (h6:v5=false) (h8:v7=false) (s11:0≤v2∧v2≤l.length) (s12:l.length<9223372036854775807) (s17:0≤v14∧(v14:Int).toNat<N) (s18:0≤g∧g≤4) (s19:0≤v10∧v10≤l.length) (s20:l.length<9223372036854775807) (s24:0≤v21∧(v21:Int).toNat<N) (s25:0≤g∧g≤4) (s26:0≤v16∧v16≤l.length) (s27:l.length<9223372036854775807):BFun false (KN w0) Tryd.prog 55 [.o (.c (.p 0 0)),.o (.c (.d (pI g))),.o (.c (.d (pI D)))] [(79,[.d (pLs cI l),.d (pI a)])] (.o (.g [.d (pI v13),.d (pV (.int .i64 0)),.d (pLs cE v28)])) [(79,[.d (pLs cI l),.d (pI v23)])] :=
 con_b (pan:=false) (zl (F:=FL [pLs cI l,pI a,pI g,pI D,pI v1,pI v2,pB v5,pB v7,pI v9,pI v10,pI v13,pI v14,pI v15.op,pI v15.n,pLs cE v15.l,pI v16,pI v21,pI v22.op,pI v22.n,pLs cE v22.l,pI v23,pLs cE v28] []) (C:=[(1000002,.call ⟨72,[.o (.c (.p 900 0)),.o (.c (.k (.int .i64 10)))],[.bx 900 79 [.h 0,.h 1]],.o (.c (.h 4)),[.bx 900 79 [.h 0,.h 5]]⟩),
  (1000005,.bin .eql 3 (LF (.h 3)) (LF (.k (.int .i64 0))) (LF (.h 6))),
  (10006,.fb 6 false),
  (1000008,.bin .lss 3 (LF (.h 4)) (LF (.k (.int .i64 4))) (LF (.h 7))),
  (10007,.fb 7 false),
  (1000011,.call ⟨72,[.o (.c (.p 900 0)),.o (.c (.k (.int .i64 5)))],[.bx 900 79 [.h 0,.h 5]],.o (.c (.h 8)),[.bx 900 79 [.h 0,.h 9]]⟩),
  (1000012,.bin .add 3 (LF (.k (.int .i64 3))) (LF (.h 8)) (LF (.h 10))),
  (1000017,.bin .sub 3 (LF (.h 3)) (LF (.k (.int .i64 1))) (LF (.h 11))),
  (1000018,.call ⟨55,[.o (.c (.p 900 0)),.o (.c (.h 2)),.o (.c (.h 11))],[.bx 900 79 [.h 0,.h 9]],.o (.g [.h 12,.h 13,.h 14]),[.bx 900 79 [.h 0,.h 15]]⟩),
  (1000024,.bin .sub 3 (LF (.h 3)) (LF (.k (.int .i64 1))) (LF (.h 16))),
  (1000025,.call ⟨55,[.o (.c (.p 900 0)),.o (.c (.h 2)),.o (.c (.h 16))],[.bx 900 79 [.h 0,.h 15]],.o (.g [.h 17,.h 18,.h 19]),[.bx 900 79 [.h 0,.h 20]]⟩),
  (1000031,.dat 31 2 [.h 12,.h 13,.h 14,.h 17,.h 18,.h 19] 21)]) (k:=⟨55,[.o (.c (.p 900 0)),.o (.c (.h 2)),.o (.c (.h 3))],[.bx 900 79 [.h 0,.h 1]],.o (.g [.h 10,.k (.int .i64 0),.h 21]),[.bx 900 79 [.h 0,.h 20]]⟩) 0 (zi ⟨(ze zf),zb rfl,zb rfl,zb rfl,zb rfl,zb rfl,zb rfl,zb rfl,zb rfl,zb rfl,zb rfl,zb rfl,zb rfl,zb rfl,(ze (zh rfl)),zb rfl,zb rfl,zb rfl,zb rfl,(ze (zh rfl)),zb rfl,(ze (zh rfl)),trivial⟩) ⟨b_con (pan:=false) (qE (10:Int) l a v1 v2 e1 e2 s3 s4) (by kernel_rfl) rfl rfl rfl rfl,
  e_bin (za rfl) zc (za rfl) (r_cmp (congrArg some e5)),
  e_fb (show pV (.bool v5)=_ by rw [h6]),
  e_bin (za rfl) zc (za rfl) (r_cmp (congrArg some e7)),
  e_fb (show pV (.bool v7)=_ by rw [h8]),
  b_con (pan:=false) (qE (5:Int) l v2 v9 v10 e9 e10 s11 s12) (by kernel_rfl) rfl rfl rfl rfl,
  e_bin zc (za rfl) (za rfl) (r_ar (congrArg some e13)),
  e_bin (za rfl) zc (za rfl) (r_ar (congrArg some e14)),
  b_con (pan:=false) (IH g v14 l v10 v15 v16 e15 e16 s17 s18 s19 s20) (by kernel_rfl) rfl rfl rfl rfl,
  e_bin (za rfl) zc (za rfl) (r_ar (congrArg some e21)),
  b_con (pan:=false) (IH g v21 l v16 v22 v23 e22 e23 s24 s25 s26 s27) (by kernel_rfl) rfl rfl rfl rfl,
  e_dat (c:=cE) (ps:=(pI v15.op::pI v15.n::pLs cE v15.l::pI v22.op::pI v22.n::pLs cE v22.l::[])) (qs:=(pI v15.op::pI v15.n::pLs cE v15.l::pI v22.op::pI v22.n::pLs cE v22.l::[])) (by rw [← e28];rfl) rfl rfl ((flatE _).trans rfl) (pimps (fun _ _ _ h=>h) <| pimps (fun _ _ _ h=>h) <| pimps (fun _ _ _ h=>h) <| pimps (fun _ _ _ h=>h) <| pimps (fun _ _ _ h=>h) <| pimps (fun _ _ _ h=>h) <| zap) rfl,
  trivial⟩ mixed (by kernel_rfl)) (by kernel_rfl) rfl rfl rfl rfl
theorem zjU {w0:World} {N:Nat} (IH:qD w0 N) (g D:Int) (l:List Int) (a:Int) (e:Xp) (p:Int) (he:(madeX g D.toNat (l.drop a.toNat)).1=e) (hp:posA l (madeX g D.toNat (l.drop a.toNat)).2=p) (hD:0≤D∧D.toNat<N+1) (hg:0≤g∧g≤4) (ha:0≤a∧a≤l.length) (hl:l.length<9223372036854775807) (hN:N≤1000):BFun false (KN w0) Tryd.prog 55 [.o (.c (.p 0 0)),.o (.c (.d (pI g))),.o (.c (.d (pI D)))] [(79,[.d (pLs cI l),.d (pI a)])] (.o (.g [.d (pI e.op),.d (pI e.n),.d (pLs cE e.l)])) [(79,[.d (pLs cI l),.d (pI p)])]:=by
 obtain ⟨v1,e1⟩:∃v,((drawX (l.drop (a:Int).toNat) (10:Int)).1)=v:=⟨_,rfl⟩
 obtain ⟨v2,e2⟩:∃v,(posA l (drawX (l.drop (a:Int).toNat) (10:Int)).2)=v:=⟨_,rfl⟩
 have s3:0≤a∧a≤l.length:=by exact ha
 have s4:l.length<9223372036854775807:=by exact hl
 obtain ⟨v5,e5⟩:∃v,((D == (0:Int)))=v:=⟨_,rfl⟩
 cases h6:v5 with
 | true =>
  obtain ⟨v7,e7⟩:∃v,((v1:Int).tmod (2:Int))=v:=⟨_,rfl⟩
  obtain ⟨v8,e8⟩:∃v,((v7 == (1:Int)))=v:=⟨_,rfl⟩
  cases h9:v8 with
  | true =>
   obtain ⟨v10,e10⟩:∃v,(decide (g > (0:Int)))=v:=⟨_,rfl⟩
   cases h11:v10 with
   | true =>
    obtain ⟨v12,e12⟩:∃v,((drawX (l.drop (v2:Int).toNat) g).1)=v:=⟨_,rfl⟩
    obtain ⟨v13,e13⟩:∃v,(posA l (drawX (l.drop (v2:Int).toNat) g).2)=v:=⟨_,rfl⟩
    have s14:0≤v2∧v2≤l.length:=by (have dh6:=eq_of_beq (e5.trans h6);have dh9:=eq_of_beq (e8.trans h9);have dh11:=of_decide_eq_true (e10.trans h11);have rv1:0≤v1∧v1<10:=(e1 ▸ zq (by omega) (by omega));have sv2:=zz ((zn _ _).trans (List.drop_suffix _ _)) e2;have qv7:v7=v1%2:=(by rw [← e7,Int.tmod_eq_emod_of_nonneg (by omega)]);have rv12:0≤v12∧v12<g:=(e12 ▸ zq (by omega) (by omega));have sv13:=zz ((zn _ _).trans (List.drop_suffix _ _)) e13;exact sv2.2)
    have s15:l.length<9223372036854775807:=by exact hl
    have r0:e=(Xp.mk (2:Int) v12 []):=by
     (have dh6:=eq_of_beq (e5.trans h6);have dh9:=eq_of_beq (e8.trans h9);have dh11:=of_decide_eq_true (e10.trans h11);have rv1:0≤v1∧v1<10:=(e1 ▸ zq (by omega) (by omega));have sv2:=zz ((zn _ _).trans (List.drop_suffix _ _)) e2;have qv7:v7=v1%2:=(by rw [← e7,Int.tmod_eq_emod_of_nonneg (by omega)]);have rv12:0≤v12∧v12<g:=(e12 ▸ zq (by omega) (by omega));have sv13:=zz ((zn _ _).trans (List.drop_suffix _ _)) e13;have z:=zbW (g:=g) (D:=D) (L:=l.drop a.toNat) (by rw [e1];omega) (by rw [e1];omega) (by omega);rw [z,← sv2.1] at he hp;first | (rw [← hp];exact e13) | (rw [e12] at he;rw [← he]))
    have r1:p=v13:=by
     (have dh6:=eq_of_beq (e5.trans h6);have dh9:=eq_of_beq (e8.trans h9);have dh11:=of_decide_eq_true (e10.trans h11);have rv1:0≤v1∧v1<10:=(e1 ▸ zq (by omega) (by omega));have sv2:=zz ((zn _ _).trans (List.drop_suffix _ _)) e2;have qv7:v7=v1%2:=(by rw [← e7,Int.tmod_eq_emod_of_nonneg (by omega)]);have rv12:0≤v12∧v12<g:=(e12 ▸ zq (by omega) (by omega));have sv13:=zz ((zn _ _).trans (List.drop_suffix _ _)) e13;have z:=zbW (g:=g) (D:=D) (L:=l.drop a.toNat) (by rw [e1];omega) (by rw [e1];omega) (by omega);rw [z,← sv2.1] at he hp;first | (rw [← hp];exact e13) | (rw [e12] at he;rw [← he]))
    rw [r0,r1];exact BFun.imp (ziL l a g D N IH v1 v2 v5 v7 v8 v10 v12 v13 e1 e2 e5 e7 e8 e10 e12 e13 s3 s4 h6 h9 h11 s14 s15) (zaE) (fun _ _ _ h=>h)
   | false =>
    obtain ⟨v12,e12⟩:∃v,((drawX (l.drop (v2:Int).toNat) (17:Int)).1)=v:=⟨_,rfl⟩
    obtain ⟨v13,e13⟩:∃v,(posA l (drawX (l.drop (v2:Int).toNat) (17:Int)).2)=v:=⟨_,rfl⟩
    have s14:0≤v2∧v2≤l.length:=by (have dh6:=eq_of_beq (e5.trans h6);have dh9:=eq_of_beq (e8.trans h9);have dh11:=of_decide_eq_false (e10.trans h11);have rv1:0≤v1∧v1<10:=(e1 ▸ zq (by omega) (by omega));have sv2:=zz ((zn _ _).trans (List.drop_suffix _ _)) e2;have qv7:v7=v1%2:=(by rw [← e7,Int.tmod_eq_emod_of_nonneg (by omega)]);have rv12:0≤v12∧v12<17:=(e12 ▸ zq (by omega) (by omega));have sv13:=zz ((zn _ _).trans (List.drop_suffix _ _)) e13;exact sv2.2)
    have s15:l.length<9223372036854775807:=by exact hl
    obtain ⟨v16,e16⟩:∃v,(IntKind.i64.wrap (v12 - (8:Int)))=v:=⟨_,rfl⟩
    have r0:e=(Xp.mk (1:Int) v16 []):=by
     (have dh6:=eq_of_beq (e5.trans h6);have dh9:=eq_of_beq (e8.trans h9);have dh11:=of_decide_eq_false (e10.trans h11);have rv1:0≤v1∧v1<10:=(e1 ▸ zq (by omega) (by omega));have sv2:=zz ((zn _ _).trans (List.drop_suffix _ _)) e2;have qv7:v7=v1%2:=(by rw [← e7,Int.tmod_eq_emod_of_nonneg (by omega)]);have rv12:0≤v12∧v12<17:=(e12 ▸ zq (by omega) (by omega));have sv13:=zz ((zn _ _).trans (List.drop_suffix _ _)) e13;have qv16:v16=v12 - 8:=(by rw [← e16,wri (by omega)]);have z:=zah (g:=g) (D:=D) (L:=l.drop a.toNat) (by rw [e1];omega) (by rw [e1];omega);rw [z,← sv2.1] at he hp;first | (rw [← hp];exact e13) | (rw [e12] at he;rw [← he,← qv16]))
    have r1:p=v13:=by
     (have dh6:=eq_of_beq (e5.trans h6);have dh9:=eq_of_beq (e8.trans h9);have dh11:=of_decide_eq_false (e10.trans h11);have rv1:0≤v1∧v1<10:=(e1 ▸ zq (by omega) (by omega));have sv2:=zz ((zn _ _).trans (List.drop_suffix _ _)) e2;have qv7:v7=v1%2:=(by rw [← e7,Int.tmod_eq_emod_of_nonneg (by omega)]);have rv12:0≤v12∧v12<17:=(e12 ▸ zq (by omega) (by omega));have sv13:=zz ((zn _ _).trans (List.drop_suffix _ _)) e13;have qv16:v16=v12 - 8:=(by rw [← e16,wri (by omega)]);have z:=zah (g:=g) (D:=D) (L:=l.drop a.toNat) (by rw [e1];omega) (by rw [e1];omega);rw [z,← sv2.1] at he hp;first | (rw [← hp];exact e13) | (rw [e12] at he;rw [← he,← qv16]))
    rw [r0,r1];exact BFun.imp (ziM l a g D N IH v1 v2 v5 v7 v8 v10 v12 v13 v16 e1 e2 e5 e7 e8 e10 e12 e13 e16 s3 s4 h6 h9 h11 s14 s15) (zaE) (fun _ _ _ h=>h)
  | false =>
   obtain ⟨v10,e10⟩:∃v,((drawX (l.drop (v2:Int).toNat) (17:Int)).1)=v:=⟨_,rfl⟩
   obtain ⟨v11,e11⟩:∃v,(posA l (drawX (l.drop (v2:Int).toNat) (17:Int)).2)=v:=⟨_,rfl⟩
   have s12:0≤v2∧v2≤l.length:=by (have dh6:=eq_of_beq (e5.trans h6);have dh9:=ne_of_beq_false (e8.trans h9);have rv1:0≤v1∧v1<10:=(e1 ▸ zq (by omega) (by omega));have sv2:=zz ((zn _ _).trans (List.drop_suffix _ _)) e2;have qv7:v7=v1%2:=(by rw [← e7,Int.tmod_eq_emod_of_nonneg (by omega)]);have rv10:0≤v10∧v10<17:=(e10 ▸ zq (by omega) (by omega));have sv11:=zz ((zn _ _).trans (List.drop_suffix _ _)) e11;exact sv2.2)
   have s13:l.length<9223372036854775807:=by exact hl
   obtain ⟨v14,e14⟩:∃v,(IntKind.i64.wrap (v10 - (8:Int)))=v:=⟨_,rfl⟩
   have r0:e=(Xp.mk (1:Int) v14 []):=by
    (have dh6:=eq_of_beq (e5.trans h6);have dh9:=ne_of_beq_false (e8.trans h9);have rv1:0≤v1∧v1<10:=(e1 ▸ zq (by omega) (by omega));have sv2:=zz ((zn _ _).trans (List.drop_suffix _ _)) e2;have qv7:v7=v1%2:=(by rw [← e7,Int.tmod_eq_emod_of_nonneg (by omega)]);have rv10:0≤v10∧v10<17:=(e10 ▸ zq (by omega) (by omega));have sv11:=zz ((zn _ _).trans (List.drop_suffix _ _)) e11;have qv14:v14=v10 - 8:=(by rw [← e14,wri (by omega)]);have z:=zah (g:=g) (D:=D) (L:=l.drop a.toNat) (by rw [e1];omega) (by rw [e1];omega);rw [z,← sv2.1] at he hp;first | (rw [← hp];exact e11) | (rw [e10] at he;rw [← he,← qv14]))
   have r1:p=v11:=by
    (have dh6:=eq_of_beq (e5.trans h6);have dh9:=ne_of_beq_false (e8.trans h9);have rv1:0≤v1∧v1<10:=(e1 ▸ zq (by omega) (by omega));have sv2:=zz ((zn _ _).trans (List.drop_suffix _ _)) e2;have qv7:v7=v1%2:=(by rw [← e7,Int.tmod_eq_emod_of_nonneg (by omega)]);have rv10:0≤v10∧v10<17:=(e10 ▸ zq (by omega) (by omega));have sv11:=zz ((zn _ _).trans (List.drop_suffix _ _)) e11;have qv14:v14=v10 - 8:=(by rw [← e14,wri (by omega)]);have z:=zah (g:=g) (D:=D) (L:=l.drop a.toNat) (by rw [e1];omega) (by rw [e1];omega);rw [z,← sv2.1] at he hp;first | (rw [← hp];exact e11) | (rw [e10] at he;rw [← he,← qv14]))
   rw [r0,r1];exact BFun.imp (ziN l a g D N IH v1 v2 v5 v7 v8 v10 v11 v14 e1 e2 e5 e7 e8 e10 e11 e14 s3 s4 h6 h9 s12 s13) (zaE) (fun _ _ _ h=>h)
 | false =>
  obtain ⟨v7,e7⟩:∃v,(decide (v1<(4:Int)))=v:=⟨_,rfl⟩
  cases h8:v7 with
  | true =>
   obtain ⟨v9,e9⟩:∃v,((v1:Int).tmod (2:Int))=v:=⟨_,rfl⟩
   obtain ⟨v10,e10⟩:∃v,((v9 == (1:Int)))=v:=⟨_,rfl⟩
   cases h11:v10 with
   | true =>
    obtain ⟨v12,e12⟩:∃v,(decide (g > (0:Int)))=v:=⟨_,rfl⟩
    cases h13:v12 with
    | true =>
     obtain ⟨v14,e14⟩:∃v,((drawX (l.drop (v2:Int).toNat) g).1)=v:=⟨_,rfl⟩
     obtain ⟨v15,e15⟩:∃v,(posA l (drawX (l.drop (v2:Int).toNat) g).2)=v:=⟨_,rfl⟩
     have s16:0≤v2∧v2≤l.length:=by (have dh6:=ne_of_beq_false (e5.trans h6);have dh8:=of_decide_eq_true (e7.trans h8);have dh11:=eq_of_beq (e10.trans h11);have dh13:=of_decide_eq_true (e12.trans h13);have rv1:0≤v1∧v1<10:=(e1 ▸ zq (by omega) (by omega));have sv2:=zz ((zn _ _).trans (List.drop_suffix _ _)) e2;have qv9:v9=v1%2:=(by rw [← e9,Int.tmod_eq_emod_of_nonneg (by omega)]);have rv14:0≤v14∧v14<g:=(e14 ▸ zq (by omega) (by omega));have sv15:=zz ((zn _ _).trans (List.drop_suffix _ _)) e15;exact sv2.2)
     have s17:l.length<9223372036854775807:=by exact hl
     have r0:e=(Xp.mk (2:Int) v14 []):=by
      (have dh6:=ne_of_beq_false (e5.trans h6);have dh8:=of_decide_eq_true (e7.trans h8);have dh11:=eq_of_beq (e10.trans h11);have dh13:=of_decide_eq_true (e12.trans h13);have rv1:0≤v1∧v1<10:=(e1 ▸ zq (by omega) (by omega));have sv2:=zz ((zn _ _).trans (List.drop_suffix _ _)) e2;have qv9:v9=v1%2:=(by rw [← e9,Int.tmod_eq_emod_of_nonneg (by omega)]);have rv14:0≤v14∧v14<g:=(e14 ▸ zq (by omega) (by omega));have sv15:=zz ((zn _ _).trans (List.drop_suffix _ _)) e15;have z:=zbW (g:=g) (D:=D) (L:=l.drop a.toNat) (by rw [e1];omega) (by rw [e1];omega) (by omega);rw [z,← sv2.1] at he hp;first | (rw [← hp];exact e15) | (rw [e14] at he;rw [← he]))
     have r1:p=v15:=by
      (have dh6:=ne_of_beq_false (e5.trans h6);have dh8:=of_decide_eq_true (e7.trans h8);have dh11:=eq_of_beq (e10.trans h11);have dh13:=of_decide_eq_true (e12.trans h13);have rv1:0≤v1∧v1<10:=(e1 ▸ zq (by omega) (by omega));have sv2:=zz ((zn _ _).trans (List.drop_suffix _ _)) e2;have qv9:v9=v1%2:=(by rw [← e9,Int.tmod_eq_emod_of_nonneg (by omega)]);have rv14:0≤v14∧v14<g:=(e14 ▸ zq (by omega) (by omega));have sv15:=zz ((zn _ _).trans (List.drop_suffix _ _)) e15;have z:=zbW (g:=g) (D:=D) (L:=l.drop a.toNat) (by rw [e1];omega) (by rw [e1];omega) (by omega);rw [z,← sv2.1] at he hp;first | (rw [← hp];exact e15) | (rw [e14] at he;rw [← he]))
     rw [r0,r1];exact BFun.imp (ziO l a g D N IH v1 v2 v5 v7 v9 v10 v12 v14 v15 e1 e2 e5 e7 e9 e10 e12 e14 e15 s3 s4 h6 h8 h11 h13 s16 s17) (zaE) (fun _ _ _ h=>h)
    | false =>
     obtain ⟨v14,e14⟩:∃v,((drawX (l.drop (v2:Int).toNat) (17:Int)).1)=v:=⟨_,rfl⟩
     obtain ⟨v15,e15⟩:∃v,(posA l (drawX (l.drop (v2:Int).toNat) (17:Int)).2)=v:=⟨_,rfl⟩
     have s16:0≤v2∧v2≤l.length:=by (have dh6:=ne_of_beq_false (e5.trans h6);have dh8:=of_decide_eq_true (e7.trans h8);have dh11:=eq_of_beq (e10.trans h11);have dh13:=of_decide_eq_false (e12.trans h13);have rv1:0≤v1∧v1<10:=(e1 ▸ zq (by omega) (by omega));have sv2:=zz ((zn _ _).trans (List.drop_suffix _ _)) e2;have qv9:v9=v1%2:=(by rw [← e9,Int.tmod_eq_emod_of_nonneg (by omega)]);have rv14:0≤v14∧v14<17:=(e14 ▸ zq (by omega) (by omega));have sv15:=zz ((zn _ _).trans (List.drop_suffix _ _)) e15;exact sv2.2)
     have s17:l.length<9223372036854775807:=by exact hl
     obtain ⟨v18,e18⟩:∃v,(IntKind.i64.wrap (v14 - (8:Int)))=v:=⟨_,rfl⟩
     have r0:e=(Xp.mk (1:Int) v18 []):=by
      (have dh6:=ne_of_beq_false (e5.trans h6);have dh8:=of_decide_eq_true (e7.trans h8);have dh11:=eq_of_beq (e10.trans h11);have dh13:=of_decide_eq_false (e12.trans h13);have rv1:0≤v1∧v1<10:=(e1 ▸ zq (by omega) (by omega));have sv2:=zz ((zn _ _).trans (List.drop_suffix _ _)) e2;have qv9:v9=v1%2:=(by rw [← e9,Int.tmod_eq_emod_of_nonneg (by omega)]);have rv14:0≤v14∧v14<17:=(e14 ▸ zq (by omega) (by omega));have sv15:=zz ((zn _ _).trans (List.drop_suffix _ _)) e15;have qv18:v18=v14 - 8:=(by rw [← e18,wri (by omega)]);have z:=zah (g:=g) (D:=D) (L:=l.drop a.toNat) (by rw [e1];omega) (by rw [e1];omega);rw [z,← sv2.1] at he hp;first | (rw [← hp];exact e15) | (rw [e14] at he;rw [← he,← qv18]))
     have r1:p=v15:=by
      (have dh6:=ne_of_beq_false (e5.trans h6);have dh8:=of_decide_eq_true (e7.trans h8);have dh11:=eq_of_beq (e10.trans h11);have dh13:=of_decide_eq_false (e12.trans h13);have rv1:0≤v1∧v1<10:=(e1 ▸ zq (by omega) (by omega));have sv2:=zz ((zn _ _).trans (List.drop_suffix _ _)) e2;have qv9:v9=v1%2:=(by rw [← e9,Int.tmod_eq_emod_of_nonneg (by omega)]);have rv14:0≤v14∧v14<17:=(e14 ▸ zq (by omega) (by omega));have sv15:=zz ((zn _ _).trans (List.drop_suffix _ _)) e15;have qv18:v18=v14 - 8:=(by rw [← e18,wri (by omega)]);have z:=zah (g:=g) (D:=D) (L:=l.drop a.toNat) (by rw [e1];omega) (by rw [e1];omega);rw [z,← sv2.1] at he hp;first | (rw [← hp];exact e15) | (rw [e14] at he;rw [← he,← qv18]))
     rw [r0,r1];exact BFun.imp (ziP l a g D N IH v1 v2 v5 v7 v9 v10 v12 v14 v15 v18 e1 e2 e5 e7 e9 e10 e12 e14 e15 e18 s3 s4 h6 h8 h11 h13 s16 s17) (zaE) (fun _ _ _ h=>h)
   | false =>
    obtain ⟨v12,e12⟩:∃v,((drawX (l.drop (v2:Int).toNat) (17:Int)).1)=v:=⟨_,rfl⟩
    obtain ⟨v13,e13⟩:∃v,(posA l (drawX (l.drop (v2:Int).toNat) (17:Int)).2)=v:=⟨_,rfl⟩
    have s14:0≤v2∧v2≤l.length:=by (have dh6:=ne_of_beq_false (e5.trans h6);have dh8:=of_decide_eq_true (e7.trans h8);have dh11:=ne_of_beq_false (e10.trans h11);have rv1:0≤v1∧v1<10:=(e1 ▸ zq (by omega) (by omega));have sv2:=zz ((zn _ _).trans (List.drop_suffix _ _)) e2;have qv9:v9=v1%2:=(by rw [← e9,Int.tmod_eq_emod_of_nonneg (by omega)]);have rv12:0≤v12∧v12<17:=(e12 ▸ zq (by omega) (by omega));have sv13:=zz ((zn _ _).trans (List.drop_suffix _ _)) e13;exact sv2.2)
    have s15:l.length<9223372036854775807:=by exact hl
    obtain ⟨v16,e16⟩:∃v,(IntKind.i64.wrap (v12 - (8:Int)))=v:=⟨_,rfl⟩
    have r0:e=(Xp.mk (1:Int) v16 []):=by
     (have dh6:=ne_of_beq_false (e5.trans h6);have dh8:=of_decide_eq_true (e7.trans h8);have dh11:=ne_of_beq_false (e10.trans h11);have rv1:0≤v1∧v1<10:=(e1 ▸ zq (by omega) (by omega));have sv2:=zz ((zn _ _).trans (List.drop_suffix _ _)) e2;have qv9:v9=v1%2:=(by rw [← e9,Int.tmod_eq_emod_of_nonneg (by omega)]);have rv12:0≤v12∧v12<17:=(e12 ▸ zq (by omega) (by omega));have sv13:=zz ((zn _ _).trans (List.drop_suffix _ _)) e13;have qv16:v16=v12 - 8:=(by rw [← e16,wri (by omega)]);have z:=zah (g:=g) (D:=D) (L:=l.drop a.toNat) (by rw [e1];omega) (by rw [e1];omega);rw [z,← sv2.1] at he hp;first | (rw [← hp];exact e13) | (rw [e12] at he;rw [← he,← qv16]))
    have r1:p=v13:=by
     (have dh6:=ne_of_beq_false (e5.trans h6);have dh8:=of_decide_eq_true (e7.trans h8);have dh11:=ne_of_beq_false (e10.trans h11);have rv1:0≤v1∧v1<10:=(e1 ▸ zq (by omega) (by omega));have sv2:=zz ((zn _ _).trans (List.drop_suffix _ _)) e2;have qv9:v9=v1%2:=(by rw [← e9,Int.tmod_eq_emod_of_nonneg (by omega)]);have rv12:0≤v12∧v12<17:=(e12 ▸ zq (by omega) (by omega));have sv13:=zz ((zn _ _).trans (List.drop_suffix _ _)) e13;have qv16:v16=v12 - 8:=(by rw [← e16,wri (by omega)]);have z:=zah (g:=g) (D:=D) (L:=l.drop a.toNat) (by rw [e1];omega) (by rw [e1];omega);rw [z,← sv2.1] at he hp;first | (rw [← hp];exact e13) | (rw [e12] at he;rw [← he,← qv16]))
    rw [r0,r1];exact BFun.imp (ziQ l a g D N IH v1 v2 v5 v7 v9 v10 v12 v13 v16 e1 e2 e5 e7 e9 e10 e12 e13 e16 s3 s4 h6 h8 h11 s14 s15) (zaE) (fun _ _ _ h=>h)
  | false =>
   obtain ⟨v9,e9⟩:∃v,((drawX (l.drop (v2:Int).toNat) (5:Int)).1)=v:=⟨_,rfl⟩
   obtain ⟨v10,e10⟩:∃v,(posA l (drawX (l.drop (v2:Int).toNat) (5:Int)).2)=v:=⟨_,rfl⟩
   have s11:0≤v2∧v2≤l.length:=by (have dh6:=ne_of_beq_false (e5.trans h6);have dh8:=of_decide_eq_false (e7.trans h8);have rv1:0≤v1∧v1<10:=(e1 ▸ zq (by omega) (by omega));have sv2:=zz ((zn _ _).trans (List.drop_suffix _ _)) e2;have rv9:0≤v9∧v9<5:=(e9 ▸ zq (by omega) (by omega));have sv10:=zz ((zn _ _).trans (List.drop_suffix _ _)) e10;exact sv2.2)
   have s12:l.length<9223372036854775807:=by exact hl
   obtain ⟨v13,e13⟩:∃v,(IntKind.i64.wrap ((3:Int)+v9))=v:=⟨_,rfl⟩
   obtain ⟨v14,e14⟩:∃v,(IntKind.i64.wrap (D - (1:Int)))=v:=⟨_,rfl⟩
   obtain ⟨v15,e15⟩:∃v,((madeX g (v14:Int).toNat (l.drop (v10:Int).toNat)).1)=v:=⟨_,rfl⟩
   obtain ⟨v16,e16⟩:∃v,(posA l (madeX g (v14:Int).toNat (l.drop (v10:Int).toNat)).2)=v:=⟨_,rfl⟩
   have s17:0≤v14∧(v14:Int).toNat<N:=by (have dh6:=ne_of_beq_false (e5.trans h6);have dh8:=of_decide_eq_false (e7.trans h8);have rv1:0≤v1∧v1<10:=(e1 ▸ zq (by omega) (by omega));have sv2:=zz ((zn _ _).trans (List.drop_suffix _ _)) e2;have rv9:0≤v9∧v9<5:=(e9 ▸ zq (by omega) (by omega));have sv10:=zz ((zn _ _).trans (List.drop_suffix _ _)) e10;have qv13:v13=3+v9:=(by rw [← e13,wri (by omega)]);have qv14:v14=D - 1:=(by rw [← e14,wri (by omega)]);have sv16:=zz ((qx _ _ _).trans (List.drop_suffix _ _)) e16;omega)
   have s18:0≤g∧g≤4:=by exact hg
   have s19:0≤v10∧v10≤l.length:=by (have dh6:=ne_of_beq_false (e5.trans h6);have dh8:=of_decide_eq_false (e7.trans h8);have rv1:0≤v1∧v1<10:=(e1 ▸ zq (by omega) (by omega));have sv2:=zz ((zn _ _).trans (List.drop_suffix _ _)) e2;have rv9:0≤v9∧v9<5:=(e9 ▸ zq (by omega) (by omega));have sv10:=zz ((zn _ _).trans (List.drop_suffix _ _)) e10;have qv13:v13=3+v9:=(by rw [← e13,wri (by omega)]);have qv14:v14=D - 1:=(by rw [← e14,wri (by omega)]);have sv16:=zz ((qx _ _ _).trans (List.drop_suffix _ _)) e16;exact sv10.2)
   have s20:l.length<9223372036854775807:=by exact hl
   obtain ⟨v21,e21⟩:∃v,(IntKind.i64.wrap (D - (1:Int)))=v:=⟨_,rfl⟩
   obtain ⟨v22,e22⟩:∃v,((madeX g (v21:Int).toNat (l.drop (v16:Int).toNat)).1)=v:=⟨_,rfl⟩
   obtain ⟨v23,e23⟩:∃v,(posA l (madeX g (v21:Int).toNat (l.drop (v16:Int).toNat)).2)=v:=⟨_,rfl⟩
   have s24:0≤v21∧(v21:Int).toNat<N:=by (have dh6:=ne_of_beq_false (e5.trans h6);have dh8:=of_decide_eq_false (e7.trans h8);have rv1:0≤v1∧v1<10:=(e1 ▸ zq (by omega) (by omega));have sv2:=zz ((zn _ _).trans (List.drop_suffix _ _)) e2;have rv9:0≤v9∧v9<5:=(e9 ▸ zq (by omega) (by omega));have sv10:=zz ((zn _ _).trans (List.drop_suffix _ _)) e10;have qv13:v13=3+v9:=(by rw [← e13,wri (by omega)]);have qv14:v14=D - 1:=(by rw [← e14,wri (by omega)]);have sv16:=zz ((qx _ _ _).trans (List.drop_suffix _ _)) e16;have qv21:v21=D - 1:=(by rw [← e21,wri (by omega)]);have sv23:=zz ((qx _ _ _).trans (List.drop_suffix _ _)) e23;omega)
   have s25:0≤g∧g≤4:=by exact hg
   have s26:0≤v16∧v16≤l.length:=by (have dh6:=ne_of_beq_false (e5.trans h6);have dh8:=of_decide_eq_false (e7.trans h8);have rv1:0≤v1∧v1<10:=(e1 ▸ zq (by omega) (by omega));have sv2:=zz ((zn _ _).trans (List.drop_suffix _ _)) e2;have rv9:0≤v9∧v9<5:=(e9 ▸ zq (by omega) (by omega));have sv10:=zz ((zn _ _).trans (List.drop_suffix _ _)) e10;have qv13:v13=3+v9:=(by rw [← e13,wri (by omega)]);have qv14:v14=D - 1:=(by rw [← e14,wri (by omega)]);have sv16:=zz ((qx _ _ _).trans (List.drop_suffix _ _)) e16;have qv21:v21=D - 1:=(by rw [← e21,wri (by omega)]);have sv23:=zz ((qx _ _ _).trans (List.drop_suffix _ _)) e23;exact sv16.2)
   have s27:l.length<9223372036854775807:=by exact hl
   obtain ⟨v28,e28⟩:∃v,(([v15,v22]:List Xp))=v:=⟨_,rfl⟩
   have r0:e=(Xp.mk v13 (0:Int) v28):=by
    (have dh6:=ne_of_beq_false (e5.trans h6);have dh8:=of_decide_eq_false (e7.trans h8);have rv1:0≤v1∧v1<10:=(e1 ▸ zq (by omega) (by omega));have sv2:=zz ((zn _ _).trans (List.drop_suffix _ _)) e2;have rv9:0≤v9∧v9<5:=(e9 ▸ zq (by omega) (by omega));have sv10:=zz ((zn _ _).trans (List.drop_suffix _ _)) e10;have qv13:v13=3+v9:=(by rw [← e13,wri (by omega)]);have qv14:v14=D - 1:=(by rw [← e14,wri (by omega)]);have sv16:=zz ((qx _ _ _).trans (List.drop_suffix _ _)) e16;have qv21:v21=D - 1:=(by rw [← e21,wri (by omega)]);have sv23:=zz ((qx _ _ _).trans (List.drop_suffix _ _)) e23;have y:v21=v14:=(by omega);subst y;have z:=zhU (g:=g) (D:=D) (L:=l.drop a.toNat) (by omega) (by rw [e1];omega);rw [z,← sv2.1,← sv10.1,← qv21,← sv16.1] at he hp;first | (rw [← hp];exact e23) | (rw [e9,e15,e22,← qv13,e28] at he;exact he.symm))
   have r1:p=v23:=by
    (have dh6:=ne_of_beq_false (e5.trans h6);have dh8:=of_decide_eq_false (e7.trans h8);have rv1:0≤v1∧v1<10:=(e1 ▸ zq (by omega) (by omega));have sv2:=zz ((zn _ _).trans (List.drop_suffix _ _)) e2;have rv9:0≤v9∧v9<5:=(e9 ▸ zq (by omega) (by omega));have sv10:=zz ((zn _ _).trans (List.drop_suffix _ _)) e10;have qv13:v13=3+v9:=(by rw [← e13,wri (by omega)]);have qv14:v14=D - 1:=(by rw [← e14,wri (by omega)]);have sv16:=zz ((qx _ _ _).trans (List.drop_suffix _ _)) e16;have qv21:v21=D - 1:=(by rw [← e21,wri (by omega)]);have sv23:=zz ((qx _ _ _).trans (List.drop_suffix _ _)) e23;have y:v21=v14:=(by omega);subst y;have z:=zhU (g:=g) (D:=D) (L:=l.drop a.toNat) (by omega) (by rw [e1];omega);rw [z,← sv2.1,← sv10.1,← qv21,← sv16.1] at he hp;first | (rw [← hp];exact e23) | (rw [e9,e15,e22,← qv13,e28] at he;exact he.symm))
   rw [r0,r1];exact ziR l a g D N IH v1 v2 v5 v7 v9 v10 v13 v14 v15 v16 v21 v22 v23 v28 e1 e2 e5 e7 e9 e10 e13 e14 e15 e16 e21 e22 e23 e28 s3 s4 h6 h8 s11 s12 s17 s18 s19 s20 s24 s25 s26 s27
theorem zcZ {w0:World}:∀N:Nat,N≤1000→qD w0 N
 | 0,_=>fun g D l a e p he hp hD=>absurd hD.2 (by omega)
 | N+1,h=>fun g D l a e p he hp hD hg ha hl=>zjU (zcZ N (by omega)) g D l a e p he hp hD hg ha hl (by omega)
theorem zk7 {w0:World} (g D:Int) (l:List Int) (a:Int) (e:Xp) (p:Int) (he:(madeX g D.toNat (l.drop a.toNat)).1=e) (hp:posA l (madeX g D.toNat (l.drop a.toNat)).2=p) (hD:0≤D∧D≤10) (hg:0≤g∧g≤4) (ha:0≤a∧a≤l.length) (hl:l.length<9223372036854775807):BFun false (KN w0) Tryd.prog 55 [.o (.c (.p 0 0)),.o (.c (.d (pI g))),.o (.c (.d (pI D)))] [(79,[.d (pLs cI l),.d (pI a)])] (.o (.g [.d (pI e.op),.d (pI e.n),.d (pLs cE e.l)])) [(79,[.d (pLs cI l),.d (pI p)])]:=zcZ 1000 (by omega) g D l a e p he hp (by omega) hg ha hl
def madE (l:List Int):Xp:=(madeX 3 3 l).1
theorem ziz {w0:World} (l:(List Int)) (g:Int) (v1:Int) (v2:Xp) (v3:Int) (e1:((if (4:Int)<g then (4:Int) else g))=v1) (e2:((madeX v1 ((3:Int):Int).toNat (l.drop ((0:Int):Int).toNat)).1)=v2) (e3:(posA l (madeX v1 ((3:Int):Int).toNat (l.drop ((0:Int):Int).toNat)).2)=v3) (s4:0≤(3:Int)∧(3:Int)≤10) (s5:0≤v1∧v1≤4) (s6:0≤(0:Int)∧(0:Int)≤l.length) (s7:l.length<9223372036854775807):Fun (KN w0) Tryd.prog 19 [.o (.c (pLs cI l)),.o (.c (pI g))] (.o (.g [pI v2.op,pI v2.n,pLs cE v2.l])):=
 zj (zl (F:=FL [pLs cI l,pI g,pI v1,pI v2.op,pI v2.n,pLs cE v2.l,pI v3] []) (C:=[(1000005,.op (.min [3,3] 3) [LF (.h 1),LF (.k (.int .i64 4))] [] (LF (.h 2))),
  (1000006,.call ⟨55,[.o (.c (.p 3 0)),.o (.c (.h 2)),.o (.c (.k (.int .i64 3)))],[.bx 3 79 [.h 0,.k (.int .i64 0)]],.o (.g [.h 3,.h 4,.h 5]),[.bx 3 79 [.h 0,.h 6]]⟩)]) (k:=⟨19,[.o (.c (.h 0)),.o (.c (.h 1))],[],.o (.g [.h 3,.h 4,.h 5]),[]⟩) 0 (zi ⟨(ze zf),zb rfl,zb rfl,zb rfl,zb rfl,(ze (zh rfl)),zb rfl,trivial⟩) ⟨e_op2 (za rfl) zc (za rfl) (fun W=>by rw [← e1];exact zK W),
  b_con (pan:=false) (zk7 v1 (3:Int) l (0:Int) v2 v3 e2 e3 s4 s5 s6 s7) (by kernel_rfl) rfl rfl rfl rfl,
  trivial⟩ mixed (by kernel_rfl)) rfl rfl rfl rfl
theorem zE {w0:World} (l:List Int) (g:Int) (e:Xp) (he:madE l=e) (hg:g=3) (hl:l.length<9223372036854775807):Fun (KN w0) Tryd.prog 19 [.o (.c (pLs cI l)),.o (.c (pI g))] (.o (.g [pI e.op,pI e.n,pLs cE e.l])):=by
 obtain ⟨v1,e1⟩:∃v,((if (4:Int)<g then (4:Int) else g))=v:=⟨_,rfl⟩
 obtain ⟨v2,e2⟩:∃v,((madeX v1 ((3:Int):Int).toNat (l.drop ((0:Int):Int).toNat)).1)=v:=⟨_,rfl⟩
 obtain ⟨v3,e3⟩:∃v,(posA l (madeX v1 ((3:Int):Int).toNat (l.drop ((0:Int):Int).toNat)).2)=v:=⟨_,rfl⟩
 have s4:0≤(3:Int)∧(3:Int)≤10:=by omega
 have s5:0≤v1∧v1≤4:=by (rw [hg,if_neg (by decide)] at e1;omega)
 have s6:0≤(0:Int)∧(0:Int)≤l.length:=by omega
 have s7:l.length<9223372036854775807:=by exact hl
 refine Fun.imp (ziz l g v1 v2 v3 e1 e2 e3 s4 s5 s6 s7) (fun _ _ _ h=>h) (fun v W D h=>?_)
 have r0:e=v2:=by
  (rw [hg,if_neg (by decide)] at e1;subst e1;rw [← he,← e2];rfl)
 rw [r0];exact h
end Go.Proofs.YtdkofaajcpcjkaaDoor
namespace Go.Proofs.YtdkofaajcpcjkaaDoor
open Go.RowKit
section
variable {K:Kit} {F:Fact}
theorem zmO {α:Type} {c:α→List Pred} {z b g n id:Nat} {T U:TypeId} {x y:Lf} (hn:F.g n=pG c ([]:List α)):Gh.sound K F ⟨id,[.bx b U [x,y,.k (.slice none 0 0)],.gn g],[.bx b U [x,y,.gr g],.gl g T z n],[]⟩:=by
 intro β a W hg hA
 obtain ⟨q,us,h1,h2,h3,h4⟩:=hA _ (List.mem_cons_self ..)
 have hb:β g=none:=hA _ (List.mem_cons_of_mem _ (List.mem_cons_self ..))
 refine ⟨β,hg,fun _ _=>Loc.same.rfl,fun _ h=>h,fun _ h=>.inl h,fun c hc=>(by cases hc),fun A hAm=>?_⟩
 simp only [List.mem_cons,List.not_mem_nil,or_false] at hAm
 rcases hAm with rfl | rfl
 ·refine ⟨q,us,h1,h2,?_,h4⟩
  match hu:us.toList,h3 with
  | [v1,v2,v3],h3 =>
   refine ⟨h3.1,h3.2.1,?_,trivial⟩
   have:v3=.slice none 0 0:=h3.2.2.1
   show v3=gv β g
   rw [this];unfold gv;rw [hb]
  | [],h3=>exact h3.elim
  | [_],h3=>exact h3.2.elim
  | [_,_],h3=>exact h3.2.2.elim
  | _::_::_::_::_,h3=>exact h3.2.2.2.elim
 ·exact zmP hb hn
theorem e_ixA {P:Program} {T E:TypeId} {n i:Nat} {ls:List Lf} {l:Lf} (hT:P.underlying T=some (.array n E)) (hz:szOf P E=some 1) (ha:aggOf P E=some false) (hi:ls[i]?=some l) (hn:i<n):Ent.sound K P F (.op (.ix T) [.o (.g ls),LF (.k (.int .i64 (i:Int)))] [] (LF l)):=by
 intro β W vs hs _ _
 match vs,hs with
 | [v,w],⟨⟨us,e,h1⟩,h2,_⟩ =>
  subst e
  have h2:w=.int .i64 (i:Int):=h2
  subst h2
  obtain ⟨u,hu,hl⟩:=zdm h1 hi
  refine ⟨u,?_,hl⟩
  have hu2:us[i]?=some u:=by rw [← Array.getElem?_toList];exact hu
  have hlt:(i:Int)<(n:Int):=by omega
  simp [Sig.sem,Instr.index,asIntOf,run_underlying hT,hlt,zaj hz,part,zaZ ha,hu2]
  exact fun h=>absurd h (by omega)
 | [],h=>exact h.elim
 | [_],h=>exact h.2.elim
 | _::_::_::_,h=>exact h.2.2.elim
def pCk (K:Kit):Pred:=fun v _ _=>K.ck v=true
theorem zmY:FineC K (pCk K):=⟨fun _ _ _ h=>h,fun h=>h⟩
theorem zm0 {b g id a:Nat} {U:TypeId} {x y:Lf} (ha:F.c a=pCk K):Gh.sound K F ⟨id,[.bx b U [x,y,.gr g]],[.bx b U [x,y,.gr g],.bx b U [x,y,.h a]],[]⟩:=by
 intro β st W hg hA
 have hB:=hA _ (List.mem_cons_self ..)
 refine ⟨β,hg,fun _ _=>Loc.same.rfl,fun _ h=>h,fun _ h=>.inl h,fun c hc=>(by cases hc),fun A hAm=>?_⟩
 simp only [List.mem_cons,List.not_mem_nil,or_false] at hAm
 rcases hAm with rfl | rfl
 ·exact hB
 ·obtain ⟨q,us,h1,h2,h3,h4,h5⟩:=hB
  refine ⟨q,us,h1,h2,?_,h4,h5⟩
  have hk:=List.all_eq_true.1 h4
  match hu:us.toList,h3 with
  | [v1,v2,v3],h3 =>
   refine ⟨h3.1,h3.2.1,?_,trivial⟩
   show F.c a v3 W β.D
   rw [ha]
   exact hk v3 (by rw [hu];simp)
  | [],h3=>exact h3.elim
  | [_],h3=>exact h3.2.elim
  | [_,_],h3=>exact h3.2.2.elim
  | _::_::_::_::_,h3=>exact h3.2.2.2.elim
theorem zmK {α:Type} {c:α→List Pred} {z b g n k id i j:Nat} {T U:TypeId} {l:List α} {s t:Int} (hbg:b≠g) (hz:∀x,(c x).length=z) (h0:0<z) (hc:∀x,FineAll K (c x)) (hn:F.g n=pG c l) (hk:F.c k=pLs c l) (hi:F.c i=pI s) (hj:F.c j=pI t):Gh.sound K F ⟨id,[.gl g T z n,.bx b U [.h i,.h j,.gr g]],[.bx b U [.h i,.h j,.h k]],[g]⟩:=by
 intro β a W hg hA
 obtain ⟨cap,h2⟩:=zlt (K:=K) (T:=T) hz h0 hn (hA _ (List.mem_cons_self ..))
 obtain ⟨q,us,hq,hh,ho,hr⟩:=hA (.bx b U [.h i,.h j,.gr g]) (List.mem_cons_of_mem _ (List.mem_cons_self ..))
 let β':Loc:=⟨fun x=>if x=g then none else β x,β.len,fun q=>β.D q∨β g=some q⟩
 have hb:β' g=none:=if_pos rfl
 have hne:∀x,x≠g→β' x=β x:=fun x hx=>if_neg hx
 have hsub:∀x q,β' x=some q→x≠g∧β x=some q:=fun x q hq=>by
  by_cases hx:x=g
  ·subst hx;rw [hb] at hq;cases hq
  ·exact ⟨hx,by rw [← hne x hx];exact hq⟩
 refine ⟨β',⟨fun x q hq=>hg.lt x q (hsub x q hq).2,fun x y q hx hy=>hg.inj x y q (hsub x q hx).2 (hsub y q hy).2,hg.bel,fun x q hq hD=>?_,fun q hq=>?_,fun q hq=>.inl (hg.low q hq)⟩,fun x hx=>⟨hne x (by simpa using hx),rfl⟩,fun q hq=>.inl hq,fun q hq=>hq.imp (fun h=>h) fun h=>⟨g,by simp,h⟩,fun x hx q hq=>?_,fun A hAm=>?_⟩
 ·obtain ⟨h3,h4⟩:=hsub x q hq
  rcases hD with hD | hD
  ·exact hg.dis x q h4 hD
  ·exact h3 (hg.inj x g q h4 hD)
 ·rcases hq with hq | hq
  ·exact hg.dlt q hq
  ·exact hg.lt g q hq
 ·rw [List.mem_singleton] at hx
  subst hx
  rw [hb] at hq;cases hq
 ·obtain rfl:=List.mem_singleton.1 hAm
  refine ⟨q,us,(hne b hbg).trans hq,hh,?_,hr⟩
  match hu:us.toList,ho with
  | [v1,v2,v3],⟨h3,h4,h5,_⟩ =>
   have h3:F.c i v1 W β.D:=h3
   have h4:F.c j v2 W β.D:=h4
   rw [hi] at h3;rw [hj] at h4
   refine ⟨?_,?_,?_,trivial⟩
   ·show F.c i v1 W β'.D
    rw [hi];exact h3
   ·show F.c j v2 W β'.D
    rw [hj];exact h4
   ·show F.c k v3 W β'.D
    have h1:v3=gv β g:=h5
    rw [hk,h1]
    rcases h2 with ⟨h2,_,rfl⟩ | ⟨p,cur,hbg,h2,hh,hle,hok⟩
    ·rw [h2];exact .inl ⟨⟨_,_,rfl⟩,rfl,rfl⟩
    ·rw [h2]
     refine .inr ⟨p,0,cap,T,cur,(0,0),rfl,.inr hbg,hh,?_,hle⟩
     show okl _ ((cur.toList.drop 0).take _) W β'.D
     rw [List.drop_zero,zag hz]
     exact zbi (S:=fun _=>False) (fun _ h=>h.elim) (Oth.refl _ W) (fun q hq=>.inl hq) (q7 hc l) hok
end
theorem znh {args:List Int} {e:Xp} (h:e.op≠2):putX args e=.mk e.op e.n (putL args e.l):=by cases e;rw [putX];exact if_neg h
theorem zm2 {args:List Int} {e:Xp} (h:e.op=2):putX args e=.mk 1 (args.getD e.n.toNat 0) []:=by cases e;rw [putX];exact if_pos h
theorem zmS {l:List Xp} {k:Nat} {x:Xp} (h:l[k]?=some x) (args:List Int):putL args (l.drop k)=putX args x::putL args (l.drop (k+1)):=by
 obtain ⟨hlt,rfl⟩:=List.getElem?_eq_some_iff.1 h
 rw [List.drop_eq_getElem_cons hlt,putL]
theorem zmG {m:Int} {e:Xp} (h:Vx m e):e.l.length≤2∧∀x∈e.l,Vx m x:=by
 cases h with
 | num h=>exact ⟨Nat.zero_le _,fun x hx=>(by cases hx)⟩
 | arg h0 h1=>exact ⟨Nat.zero_le _,fun x hx=>(by cases hx)⟩
 | op h0 h1 ha hb =>
  refine ⟨Nat.le_refl _,fun x hx=>?_⟩
  rcases List.mem_cons.1 hx with rfl | hx
  ·exact ha
  ·rw [List.mem_singleton.1 hx];exact hb
theorem znj {m:Int} {e:Xp} (h:Vx m e) (ho:e.op=2):0≤e.n∧e.n<m:=by
 cases h with
 | num h=>cases ho
 | arg h0 h1=>exact ⟨h0,by simp only [Xp.n];omega⟩
 | op h0 h1 ha hb=>simp only [Xp.op] at ho;omega
def zmn (w0:World) (N:Nat):Prop:=∀(x:Xp) (args:List Int) (e:Xp),putX args x=e→Vx args.length x→nodes x≤N→Fun (KN w0) Tryd.prog 24 [.o (.g [pI x.op,pI x.n,pLs cE x.l]),.o (.c (pLs cI args))] (.o (.g [pI e.op,pI e.n,pLs cE e.l]))
structure x_put_A_T where
 i:Int
 o:(List Xp)
def qw:List Atom:=[.sl 0 (.o (.g [.h 0,.h 1,.h 2])),.sl 1 (.o (.c (.h 3))),.sl 2 (.o (.c (.p 0 0))),.sl 4 (.o (.c (.p 1 0))),.sl 5 (.o (.c (.p 10 0))),.sl 8 (.o (.c (.p 0 0))),.sl 9 (.o (.c (.h 0))),.sl 10 (.o (.c (.h 4))),.sl 17 (.o (.c (.p 0 0))),.sl 18 (.o (.c (.h 0))),.sl 19 (.o (.c (.p 0 1))),.sl 20 (.o (.c (.h 1))),.sl 21 (.o (.g [.h 0,.h 1,.k (.slice none 0 0)])),.sl 22 (.o (.c (.p 0 2))),.sl 23 (.o (.c (.h 2))),.sl 24 (.o (.c (.h 5))),.sl 25 (.o (.c (.h 6))),.bx 0 31 [.h 0,.h 1,.h 2],.bx 1 31 [.k (.int .i64 0),.k (.int .i64 0),.k (.slice none 0 0)],.bx 10 31 [.h 0,.h 1,.gr 901],.gl 901 31 3 1]
def zmo:LoopS:=⟨5,[.sl 0 (.o (.g [.h 0,.h 1,.h 2])),.sl 1 (.o (.c (.h 3))),.sl 2 (.o (.c (.p 0 0))),.sl 4 (.o (.c (.p 1 0))),.sl 5 (.o (.c (.p 10 0))),.sl 8 (.o (.c (.p 0 0))),.sl 9 (.o (.c (.h 0))),.sl 10 (.o (.c (.h 4))),.sl 17 (.o (.c (.p 0 0))),.sl 18 (.o (.c (.h 0))),.sl 19 (.o (.c (.p 0 1))),.sl 20 (.o (.c (.h 1))),.sl 21 (.o (.g [.h 0,.h 1,.k (.slice none 0 0)])),.sl 22 (.o (.c (.p 0 2))),.sl 23 (.o (.c (.h 2))),.sl 24 (.o (.c (.h 5))),.sl 25 (.o (.c (.k (.int .i64 0)))),.bx 0 31 [.h 0,.h 1,.h 2],.bx 1 31 [.k (.int .i64 0),.k (.int .i64 0),.k (.slice none 0 0)],.bx 10 31 [.h 0,.h 1,.gr 901],.gl 901 31 3 0],(.x 0),[.sl 0 (.o (.g [.h 0,.h 1,.h 2])),.sl 1 (.o (.c (.h 3))),.sl 2 (.o (.c (.p 0 0))),.sl 4 (.o (.c (.p 1 0))),.sl 5 (.o (.c (.p 10 0))),.sl 8 (.o (.c (.p 0 0))),.sl 9 (.o (.c (.h 0))),.sl 10 (.o (.c (.h 4))),.sl 17 (.o (.c (.p 0 0))),.sl 18 (.o (.c (.h 0))),.sl 19 (.o (.c (.p 0 1))),.sl 20 (.o (.c (.h 1))),.sl 21 (.o (.g [.h 0,.h 1,.k (.slice none 0 0)])),.sl 22 (.o (.c (.p 0 2))),.sl 23 (.o (.c (.h 2))),.sl 24 (.o (.c (.h 5))),.bx 0 31 [.h 0,.h 1,.h 2],.bx 1 31 [.k (.int .i64 0),.k (.int .i64 0),.k (.slice none 0 0)],.bx 10 31 [.h 0,.h 1,.gr 901],.gl 901 31 3 1]⟩
theorem zmM {w0:World} (e:Xp) (args:(List Int)) (N:Nat) (v1:Bool) (v3:Int) (IH:zmn w0 N) (h2:v1=false) (i:Int) (o:(List Xp)) (v501:Bool) (n503:Nat) (x504:Xp) (v507:Xp) (v510:(List Xp)) (v512:Int) (e501:(decide (i<v3))=v501) (e507:(putX args x504)=v507) (e510:(o++[v507])=v510) (e512:(IntKind.i64.wrap (i+(1:Int)))=v512) (h502:v501=true) (s505:i=(n503:Int)) (s506:e.l[n503]?=some x504) (s508:Vx args.length x504) (s509:nodes x504≤N) (s511:(o.length+1)*3≤1099511627776) (i':Int) (o':(List Xp)) (q0:(v512)=i') (q1:(v510)=o') (R:Frm) (hR:R.pm=⟨ntOf Tryd.prog 24,[],[]⟩):Goes (KN w0) Tryd.prog R (lp Tryd.prog 24 0) (FL [pI e.op,pI e.n,pLs cE e.l,pLs cI args,pB v1,pI v3,pI i] [pG cE ([]:List Xp),pG cE o]) qw .n (FL [pI e.op,pI e.n,pLs cE e.l,pLs cI args,pB v1,pI v3,pI i'] [pG cE ([]:List Xp),pG cE o']) qw:=
 goes (x:=.n) (y:=.n) (Fb:=FL [pI e.op,pI e.n,pLs cE e.l,pLs cI args,pB v1,pI v3,pI i,pB v501,pP (cE x504),pI x504.op,pI x504.n,pLs cE x504.l,pCk (KN w0),pI v507.op,pI v507.n,pLs cE v507.l,pI v512] [pG cE ([]:List Xp),pG cE o,pG cE v510]) (stb:=qw) (tl:=[.sl 0 (.o (.g [.h 0,.h 1,.h 2])),.sl 1 (.o (.c (.h 3))),.sl 2 (.o (.c (.p 0 0))),.sl 4 (.o (.c (.p 1 0))),.sl 5 (.o (.c (.p 10 0))),.sl 8 (.o (.c (.p 0 0))),.sl 9 (.o (.c (.h 0))),.sl 10 (.o (.c (.h 4))),.sl 17 (.o (.c (.p 0 0))),.sl 18 (.o (.c (.h 0))),.sl 19 (.o (.c (.p 0 1))),.sl 20 (.o (.c (.h 1))),.sl 21 (.o (.g [.h 0,.h 1,.k (.slice none 0 0)])),.sl 22 (.o (.c (.p 0 2))),.sl 23 (.o (.c (.h 2))),.sl 24 (.o (.c (.h 5))),.sl 25 (.o (.c (.h 16))),.bx 0 31 [.h 0,.h 1,.h 2],.bx 1 31 [.k (.int .i64 0),.k (.int .i64 0),.k (.slice none 0 0)],.bx 10 31 [.h 0,.h 1,.gr 901],.gl 901 31 3 2]) (C:=((10004,.fb 4 false) ::
  (1005000,.bin .lss 3 (LF (.h 6)) (LF (.h 5)) (LF (.h 7))) ::
  (10007,.fb 7 true) ::
  (1005001,.op (.ia 28) [LF (.h 2),LF (.h 6)] [] (LF (.h 8))) ::
  (1005002,.op (.ld 31) [LF (.h 8)] [] (.o (.g [.h 9,.h 10,.h 11]))) ::
  (1005009,.call ⟨24,[.o (.g [.h 9,.h 10,.h 11]),.o (.c (.h 3))],[],.o (.g [.h 13,.h 14,.h 15]),[]⟩) ::
  (1005011,.app 31 3 901 1 2 (.o (.c (.s 5010 0 1 1))) [.bx 5010 31 [.h 13,.h 14,.h 15]] false) ::
  (1005014,.bin .add 3 (LF (.h 6)) (LF (.k (.int .i64 1))) (LF (.h 16))) ::
  []:List (Nat×Ent))) (H:=⟨[],[⟨6,[.bx 10 31 [.h 0,.h 1,.gr 901]],[.bx 10 31 [.h 0,.h 1,.gr 901],.bx 10 31 [.h 0,.h 1,.h 12]],[]⟩],0⟩) 5000 (zipA.imp ⟨z_g ⟨fun _ _ _ h=>h,fun _ _ _ h=>h,fun _ _ _ h=>h,trivial⟩,z_c (fun _ _ _ h=>h),z_c (fun _ _ _ h=>h),z_c (fun _ _ _ h=>h),z_c (fun _ _ _ h=>h),z_c (fun _ _ _ h=>h),z_c (fun _ _ _ h=>h),z_c (fun _ _ _ h=>h),z_c (fun _ _ _ h=>h),z_c (fun _ _ _ h=>h),z_c (fun _ _ _ h=>h),z_c (fun _ _ _ h=>h),z_g ⟨fun _ _ _ h=>h,fun _ _ _ h=>h,fun _ _ _ h=>h,trivial⟩,z_c (fun _ _ _ h=>h),z_c (fun _ _ _ h=>h),z_c (fun _ _ _ h=>h),z_c (fun _ _ _ h=>h),z_b ⟨fun _ _ _ h=>h,fun _ _ _ h=>h,fun _ _ _ h=>h,trivial⟩,z_b ⟨fun _ _ _ h=>h,fun _ _ _ h=>h,fun _ _ _ h=>h,trivial⟩,z_b ⟨fun _ _ _ h=>h,fun _ _ _ h=>h,fun _ _ _ h=>h,trivial⟩,z_gl (fun _ _ _ h=>h),trivial⟩) (zi ⟨zb rfl,zb rfl,(ze (zh rfl)),(ze zf),zb rfl,zb rfl,zb rfl,zb rfl,(zu ((zh rfl) _)),zb rfl,zb rfl,(ze (zh rfl)),zmY,zb rfl,zb rfl,(ze (zh rfl)),zb rfl,trivial⟩ ⟨(zk (zh rfl)),(zk (zh rfl)),(zk (zh rfl)),trivial⟩) ⟨e_fb (show pV (.bool v1)=_ by rw [h2]),
  e_bin (za rfl) (za rfl) (za rfl) (r_cmp (congrArg some e501)),
  e_fb (show pV (.bool v501)=_ by rw [h502]),
  e_iaL (E:=31) (z:=3) zp (by kernel_rfl) (by kernel_rfl) (zd rfl) (za rfl) s505 s506 (zd rfl),
  e_ldG (by kernel_rfl) (by kernel_rfl) (zd rfl) (cE_eq _).symm rfl (zp _),
  zg (IH x504 args v507 e507 s508 s509) rfl rfl rfl rfl,
  zmH (c:=cE) (x:=v507) (zh rfl) zp (.inr ⟨rfl,rfl⟩) (by rw [e510];rfl) rfl (fun _ _ _ h=>(cE_eq _).symm ▸ h) rfl s511,
  e_bin (za rfl) zc (za rfl) (r_ar (congrArg some e512)),
  trivial⟩ mixed hR ⟨zm0 rfl,trivial⟩ (fun _ _ _ hs=>by cases hs) (by kernel_rfl:qk (KN w0) Tryd.prog _ ⟨[],[⟨6,[.bx 10 31 [.h 0,.h 1,.gr 901]],[.bx 10 31 [.h 0,.h 1,.gr 901],.bx 10 31 [.h 0,.h 1,.h 12]],[]⟩],0⟩ ⟨ntOf Tryd.prog 24,[],[]⟩ (lp Tryd.prog 24 0) 5000 qw .n [.sl 0 (.o (.g [.h 0,.h 1,.h 2])),.sl 1 (.o (.c (.h 3))),.sl 2 (.o (.c (.p 0 0))),.sl 4 (.o (.c (.p 1 0))),.sl 5 (.o (.c (.p 10 0))),.sl 8 (.o (.c (.p 0 0))),.sl 9 (.o (.c (.h 0))),.sl 10 (.o (.c (.h 4))),.sl 17 (.o (.c (.p 0 0))),.sl 18 (.o (.c (.h 0))),.sl 19 (.o (.c (.p 0 1))),.sl 20 (.o (.c (.h 1))),.sl 21 (.o (.g [.h 0,.h 1,.k (.slice none 0 0)])),.sl 22 (.o (.c (.p 0 2))),.sl 23 (.o (.c (.h 2))),.sl 24 (.o (.c (.h 5))),.sl 25 (.o (.c (.h 16))),.bx 0 31 [.h 0,.h 1,.h 2],.bx 1 31 [.k (.int .i64 0),.k (.int .i64 0),.k (.slice none 0 0)],.bx 10 31 [.h 0,.h 1,.gr 901],.gl 901 31 3 2]=true) rfl (zipA.imp ⟨z_g ⟨fun _ _ _ h=>h,fun _ _ _ h=>h,fun _ _ _ h=>h,trivial⟩,z_c (fun _ _ _ h=>h),z_c (fun _ _ _ h=>h),z_c (fun _ _ _ h=>h),z_c (fun _ _ _ h=>h),z_c (fun _ _ _ h=>h),z_c (fun _ _ _ h=>h),z_c (fun _ _ _ h=>h),z_c (fun _ _ _ h=>h),z_c (fun _ _ _ h=>h),z_c (fun _ _ _ h=>h),z_c (fun _ _ _ h=>h),z_g ⟨fun _ _ _ h=>h,fun _ _ _ h=>h,fun _ _ _ h=>h,trivial⟩,z_c (fun _ _ _ h=>h),z_c (fun _ _ _ h=>h),z_c (fun _ _ _ h=>h),z_c (fun β v W h=>(zd rfl β v W).2 (by rw [← q0];exact h)),z_b ⟨fun _ _ _ h=>h,fun _ _ _ h=>h,fun _ _ _ h=>h,trivial⟩,z_b ⟨fun _ _ _ h=>h,fun _ _ _ h=>h,fun _ _ _ h=>h,trivial⟩,z_b ⟨fun _ _ _ h=>h,fun _ _ _ h=>h,fun _ _ _ h=>h,trivial⟩,z_gq rfl (by rw [q1];rfl),trivial⟩)
theorem zmN {w0:World} (e:Xp) (args:(List Int)) (N:Nat) (v1:Bool) (v3:Int) (IH:zmn w0 N) (h2:v1=false) (i:Int) (o:(List Xp)) (v501:Bool) (e501:(decide (i<v3))=v501) (h502:v501=false) (o2:(List Xp)) (F:Fact) (u0:F.c 0=pI e.op) (u1:F.c 1=pI e.n) (u2:F.c 2=pLs cE e.l) (u3:F.c 3=pLs cI args) (u4:F.c 4=pB v1) (u5:F.c 5=pI v3) (ug0:F.g 0=pG cE ([]:List Xp)) (ug1:F.g 1=pG cE o2) (q0:(o)=o2) (R:Frm) (hR:R.pm=⟨ntOf Tryd.prog 24,[],[]⟩):Goes (KN w0) Tryd.prog R (lp Tryd.prog 24 0) (FL [pI e.op,pI e.n,pLs cE e.l,pLs cI args,pB v1,pI v3,pI i] [pG cE ([]:List Xp),pG cE o]) qw (.x 0) F zmo.out:=
 goes (x:=(.x 0)) (y:=(.x 0)) (Fb:=FL [pI e.op,pI e.n,pLs cE e.l,pLs cI args,pB v1,pI v3,pI i,pB v501] [pG cE ([]:List Xp),pG cE o]) (stb:=qw) (tl:=[.sl 0 (.o (.g [.h 0,.h 1,.h 2])),.sl 1 (.o (.c (.h 3))),.sl 2 (.o (.c (.p 0 0))),.sl 4 (.o (.c (.p 1 0))),.sl 5 (.o (.c (.p 10 0))),.sl 8 (.o (.c (.p 0 0))),.sl 9 (.o (.c (.h 0))),.sl 10 (.o (.c (.h 4))),.sl 17 (.o (.c (.p 0 0))),.sl 18 (.o (.c (.h 0))),.sl 19 (.o (.c (.p 0 1))),.sl 20 (.o (.c (.h 1))),.sl 21 (.o (.g [.h 0,.h 1,.k (.slice none 0 0)])),.sl 22 (.o (.c (.p 0 2))),.sl 23 (.o (.c (.h 2))),.sl 24 (.o (.c (.h 5))),.bx 0 31 [.h 0,.h 1,.h 2],.bx 1 31 [.k (.int .i64 0),.k (.int .i64 0),.k (.slice none 0 0)],.bx 10 31 [.h 0,.h 1,.gr 901],.gl 901 31 3 1]) (C:=((10004,.fb 4 false) ::
  (1005000,.bin .lss 3 (LF (.h 6)) (LF (.h 5)) (LF (.h 7))) ::
  (10007,.fb 7 false) ::
  []:List (Nat×Ent))) (H:=.no) 5000 (zipA.imp ⟨z_g ⟨fun _ _ _ h=>h,fun _ _ _ h=>h,fun _ _ _ h=>h,trivial⟩,z_c (fun _ _ _ h=>h),z_c (fun _ _ _ h=>h),z_c (fun _ _ _ h=>h),z_c (fun _ _ _ h=>h),z_c (fun _ _ _ h=>h),z_c (fun _ _ _ h=>h),z_c (fun _ _ _ h=>h),z_c (fun _ _ _ h=>h),z_c (fun _ _ _ h=>h),z_c (fun _ _ _ h=>h),z_c (fun _ _ _ h=>h),z_g ⟨fun _ _ _ h=>h,fun _ _ _ h=>h,fun _ _ _ h=>h,trivial⟩,z_c (fun _ _ _ h=>h),z_c (fun _ _ _ h=>h),z_c (fun _ _ _ h=>h),z_c (fun _ _ _ h=>h),z_b ⟨fun _ _ _ h=>h,fun _ _ _ h=>h,fun _ _ _ h=>h,trivial⟩,z_b ⟨fun _ _ _ h=>h,fun _ _ _ h=>h,fun _ _ _ h=>h,trivial⟩,z_b ⟨fun _ _ _ h=>h,fun _ _ _ h=>h,fun _ _ _ h=>h,trivial⟩,z_gl (fun _ _ _ h=>h),trivial⟩) (zi ⟨zb rfl,zb rfl,(ze (zh rfl)),(ze zf),zb rfl,zb rfl,zb rfl,zb rfl,trivial⟩ ⟨(zk (zh rfl)),(zk (zh rfl)),trivial⟩) ⟨e_fb (show pV (.bool v1)=_ by rw [h2]),
  e_bin (za rfl) (za rfl) (za rfl) (r_cmp (congrArg some e501)),
  e_fb (show pV (.bool v501)=_ by rw [h502]),
  trivial⟩ mixed hR trivial (fun _ _ _ hs=>by cases hs) (by kernel_rfl:qk (KN w0) Tryd.prog _ .no ⟨ntOf Tryd.prog 24,[],[]⟩ (lp Tryd.prog 24 0) 5000 qw (.x 0) [.sl 0 (.o (.g [.h 0,.h 1,.h 2])),.sl 1 (.o (.c (.h 3))),.sl 2 (.o (.c (.p 0 0))),.sl 4 (.o (.c (.p 1 0))),.sl 5 (.o (.c (.p 10 0))),.sl 8 (.o (.c (.p 0 0))),.sl 9 (.o (.c (.h 0))),.sl 10 (.o (.c (.h 4))),.sl 17 (.o (.c (.p 0 0))),.sl 18 (.o (.c (.h 0))),.sl 19 (.o (.c (.p 0 1))),.sl 20 (.o (.c (.h 1))),.sl 21 (.o (.g [.h 0,.h 1,.k (.slice none 0 0)])),.sl 22 (.o (.c (.p 0 2))),.sl 23 (.o (.c (.h 2))),.sl 24 (.o (.c (.h 5))),.bx 0 31 [.h 0,.h 1,.h 2],.bx 1 31 [.k (.int .i64 0),.k (.int .i64 0),.k (.slice none 0 0)],.bx 10 31 [.h 0,.h 1,.gr 901],.gl 901 31 3 1]=true) rfl (zipA.imp ⟨z_g ⟨fun β v W h=>(zd u0 β v W).2 h,fun β v W h=>(zd u1 β v W).2 h,fun β v W h=>(zd u2 β v W).2 h,trivial⟩,z_c (fun β v W h=>(zd u3 β v W).2 h),z_c (fun _ _ _ h=>h),z_c (fun _ _ _ h=>h),z_c (fun _ _ _ h=>h),z_c (fun _ _ _ h=>h),z_c (fun β v W h=>(zd u0 β v W).2 h),z_c (fun β v W h=>(zd u4 β v W).2 h),z_c (fun _ _ _ h=>h),z_c (fun β v W h=>(zd u0 β v W).2 h),z_c (fun _ _ _ h=>h),z_c (fun β v W h=>(zd u1 β v W).2 h),z_g ⟨fun β v W h=>(zd u0 β v W).2 h,fun β v W h=>(zd u1 β v W).2 h,fun _ _ _ h=>h,trivial⟩,z_c (fun _ _ _ h=>h),z_c (fun β v W h=>(zd u2 β v W).2 h),z_c (fun β v W h=>(zd u5 β v W).2 h),z_b ⟨fun β v W h=>(zd u0 β v W).2 h,fun β v W h=>(zd u1 β v W).2 h,fun β v W h=>(zd u2 β v W).2 h,trivial⟩,z_b ⟨fun _ _ _ h=>h,fun _ _ _ h=>h,fun _ _ _ h=>h,trivial⟩,z_b ⟨fun β v W h=>(zd u0 β v W).2 h,fun β v W h=>(zd u1 β v W).2 h,fun _ _ _ h=>h,trivial⟩,z_gq rfl (by rw [q0];exact ug1),trivial⟩)
def zmW (e:Xp) (args:(List Int)) (N:Nat) (v1:Bool) (v3:Int) (t:x_put_A_T) (o2:(List Xp)):Prop:=(∃(v501:Bool),((decide (t.i<v3))=v501)∧(v501=false)∧((t.o)=o2)∧True)
def zmV (e:Xp) (args:(List Int)) (N:Nat) (v1:Bool) (v3:Int) (t t':x_put_A_T):Prop:=(∃(v501:Bool),∃(n503:Nat),∃(x504:Xp),∃(v507:Xp),∃(v510:(List Xp)),∃(v512:Int),((decide (t.i<v3))=v501)∧((putX args x504)=v507)∧((t.o++[v507])=v510)∧((IntKind.i64.wrap (t.i+(1:Int)))=v512)∧(v501=true)∧(t.i=(n503:Int))∧(e.l[n503]?=some x504)∧(Vx args.length x504)∧(nodes x504≤N)∧((t.o.length+1)*3≤1099511627776)∧((v512)=t'.i)∧((v510)=t'.o)∧True)
theorem zmC {w0:World} (e:Xp) (args:(List Int)) (N:Nat) (v1:Bool) (v3:Int) (IH:zmn w0 N) (h2:v1=false) (o2:(List Xp)) {F:Fact} (u0:F.c 0=pI e.op) (u1:F.c 1=pI e.n) (u2:F.c 2=pLs cE e.l) (u3:F.c 3=pLs cI args) (u4:F.c 4=pB v1) (u5:F.c 5=pI v3) (ug0:F.g 0=pG cE ([]:List Xp)) (ug1:F.g 1=pG cE o2) (R:Frm) (hR:R.pm=⟨ntOf Tryd.prog 24,[],[]⟩) (J:x_put_A_T→Prop) (m:x_put_A_T→Nat) (hJ:J { i:=(0:Int),o:=([]:List Xp) }) (rounds:∀t,J t→zmW e args N v1 v3 t o2∨∃t',zmV e args N v1 v3 t t'∧m t'<m t∧J t'):zt (KN w0) Tryd.prog F R zmo (lp Tryd.prog 24 0):=by
 refine qg (T:=x_put_A_T) (fun t=>FL [pI e.op,pI e.n,pLs cE e.l,pLs cI args,pB v1,pI v3,pI t.i] [pG cE ([]:List Xp),pG cE t.o]) J m { i:=(0:Int),o:=([]:List Xp) } qw hJ (zipA.imp ⟨z_g ⟨fun β v W h=>(zd u0 β v W).1 h,fun β v W h=>(zd u1 β v W).1 h,fun β v W h=>(zd u2 β v W).1 h,trivial⟩,z_c (fun β v W h=>(zd u3 β v W).1 h),z_c (fun _ _ _ h=>h),z_c (fun _ _ _ h=>h),z_c (fun _ _ _ h=>h),z_c (fun _ _ _ h=>h),z_c (fun β v W h=>(zd u0 β v W).1 h),z_c (fun β v W h=>(zd u4 β v W).1 h),z_c (fun _ _ _ h=>h),z_c (fun β v W h=>(zd u0 β v W).1 h),z_c (fun _ _ _ h=>h),z_c (fun β v W h=>(zd u1 β v W).1 h),z_g ⟨fun β v W h=>(zd u0 β v W).1 h,fun β v W h=>(zd u1 β v W).1 h,fun _ _ _ h=>h,trivial⟩,z_c (fun _ _ _ h=>h),z_c (fun β v W h=>(zd u2 β v W).1 h),z_c (fun β v W h=>(zd u5 β v W).1 h),z_c (fun _ _ _ h=>h),z_b ⟨fun β v W h=>(zd u0 β v W).1 h,fun β v W h=>(zd u1 β v W).1 h,fun β v W h=>(zd u2 β v W).1 h,trivial⟩,z_b ⟨fun _ _ _ h=>h,fun _ _ _ h=>h,fun _ _ _ h=>h,trivial⟩,z_b ⟨fun β v W h=>(zd u0 β v W).1 h,fun β v W h=>(zd u1 β v W).1 h,fun _ _ _ h=>h,trivial⟩,z_gq ug0 rfl,trivial⟩) rfl fun t ht=>?_
 rcases rounds t ht with hz_ | ⟨t',hz_,hm_,hj_⟩
 ·refine .inl ?_
  rcases hz_ with ⟨v501,e501,h502,q0,_⟩
  ·exact zmN  e args N v1 v3 IH h2 t.i t.o v501 e501 h502 o2 F u0 u1 u2 u3 u4 u5 ug0 ug1 q0 R hR
 ·refine .inr ⟨t',hm_,hj_,?_⟩
  rcases hz_ with ⟨v501,n503,x504,v507,v510,v512,e501,e507,e510,e512,h502,s505,s506,s508,s509,s511,q0,q1,_⟩
  ·exact zmM  e args N v1 v3 IH h2 t.i t.o v501 n503 x504 v507 v510 v512 e501 e507 e510 e512 h502 s505 s506 s508 s509 s511 t'.i t'.o q0 q1 R hR
theorem zmL {w0:World} (e:Xp) (args:(List Int)) (N:Nat) (v1:Bool) (v3:Int) (IH:zmn w0 N) (h2:v1=false) (o2:(List Xp)) {F:Fact} (u0:F.c 0=pI e.op) (u1:F.c 1=pI e.n) (u2:F.c 2=pLs cE e.l) (u3:F.c 3=pLs cI args) (u4:F.c 4=pB v1) (u5:F.c 5=pI v3) (ug0:F.g 0=pG cE ([]:List Xp)) (ug1:F.g 1=pG cE o2) (R:Frm) (hR:R.pm=⟨ntOf Tryd.prog 24,[],[]⟩) (hlen:(e.l.length:Int)=v3) (hV:Vx args.length e) (hN:nodes e≤N+1) (hO:putL args e.l=o2):zt (KN w0) Tryd.prog F R zmo (lp Tryd.prog 24 0):=by
 refine zmC  e args N v1 v3 IH h2 o2 u0 u1 u2 u3 u4 u5 ug0 ug1 R hR (fun ⟨i,o⟩=>∃k:Nat,i=(k:Int)∧k≤e.l.length∧o++putL args (e.l.drop k)=o2∧o.length=k) (fun ⟨i,o⟩=>((e.l.length:Int) - i).toNat) ⟨0,rfl,Nat.zero_le _,by rw [List.drop_zero];exact hO,rfl⟩ fun t hJ=>?_
 obtain ⟨i,o⟩:=t
 dsimp only at hJ
 obtain ⟨k,hi,hk,hs,hlo⟩:=hJ
 obtain ⟨v501,e501⟩:∃v,(decide (i<v3))=v:=⟨_,rfl⟩
 cases h502:v501 with
 | true =>
  obtain ⟨n503,x504,s505,s506⟩:∃(n503:Nat) (x504:Xp),i=(n503:Int)∧e.l[n503]?=some x504:=by (have dh502:=of_decide_eq_true (e501.trans h502);have hz:=hlen;have hlt:k<e.l.length:=(by omega);exact ⟨k,_,hi,List.getElem?_eq_getElem hlt⟩)
  obtain ⟨v507,e507⟩:∃v,(putX args x504)=v:=⟨_,rfl⟩
  have s508:Vx args.length x504:=by exact (zmG hV).2 _ (List.mem_of_getElem? s506)
  have s509:nodes x504≤N:=by exact zC hN s506
  obtain ⟨v510,e510⟩:∃v,(o++[v507])=v:=⟨_,rfl⟩
  have s511:(o.length+1)*3≤1099511627776:=by (have:=(zmG hV).1;omega)
  obtain ⟨v512,e512⟩:∃v,(IntKind.i64.wrap (i+(1:Int)))=v:=⟨_,rfl⟩
  refine .inr ⟨⟨v512,v510⟩,⟨v501,n503,x504,v507,v510,v512,e501,e507,e510,e512,h502,s505,s506,s508,s509,s511,rfl,rfl,trivial⟩,?_,?_⟩
  all_goals (have dh502:=of_decide_eq_true (e501.trans h502);have hz:=hlen;have hkn:n503=k:=(by omega);subst hkn;have hq2:=(zmG hV).1;rw [zmS s506,e507] at hs;have hlt:n503<e.l.length:=(List.getElem?_eq_some_iff.1 s506).1;have x3:v512=((n503+1:Nat):Int):=(by rw [← e512,hi,wri (by omega)];omega))
  ·show ((e.l.length:Int) - v512).toNat<((e.l.length:Int) - i).toNat
   omega
  ·exact ⟨n503+1,x3,by omega,by rw [← e510,List.append_assoc];exact hs,by rw [← e510,List.length_append,hlo];rfl⟩
 | false =>
  refine .inl (⟨v501,e501,h502,?_,trivial⟩)
  (have dh502:=of_decide_eq_false (e501.trans h502);have hz:=hlen;have hkl:k=e.l.length:=(by omega);rw [hkl,List.drop_length,putL,List.append_nil] at hs;exact hs)
theorem zm7 {w0:World} (e:Xp) (args:(List Int)) (N:Nat) (IH:zmn w0 N) (v1:Bool) (n3:Nat) (x4:Int) (v7:Xp) (e1:((e.op == (2:Int)))=v1) (e7:((Xp.mk 1 x4 []))=v7) (h2:v1=true) (s5:e.n=(n3:Int)) (s6:args[n3]?=some x4):Fun (KN w0) Tryd.prog 24 [.o (.g [pI e.op,pI e.n,pLs cE e.l]),.o (.c (pLs cI args))] (.o (.g [pI v7.op,pI v7.n,pLs cE v7.l])):=
 zj (zl (F:=FL [pI e.op,pI e.n,pLs cE e.l,pLs cI args,pB v1,pP (cI x4),pI x4,pI v7.op,pI v7.n,pLs cE v7.l] []) (C:=[(1000004,.bin .eql 3 (LF (.h 0)) (LF (.k (.int .i64 2))) (LF (.h 4))),
  (10004,.fb 4 true),
  (1000008,.op (.ia 22) [LF (.h 3),LF (.h 1)] [] (LF (.h 5))),
  (1000009,.op (.ld 3) [LF (.h 5)] [] (LF (.h 6))),
  (1000010,.call ⟨27,[.o (.c (.h 6))],[],.o (.g [.h 7,.h 8,.h 9]),[]⟩)]) (k:=⟨24,[.o (.g [.h 0,.h 1,.h 2]),.o (.c (.h 3))],[],.o (.g [.h 7,.h 8,.h 9]),[]⟩) 0 (zi ⟨zb rfl,zb rfl,(ze (zh rfl)),(ze zf),zb rfl,(zu (zf _)),zb rfl,zb rfl,zb rfl,(ze (zh rfl)),trivial⟩) ⟨e_bin (za rfl) zc (za rfl) (r_cmp (congrArg some e1)),
  e_fb (show pV (.bool v1)=_ by rw [h2]),
  e_iaL (E:=3) (z:=1) (fun _=>rfl) (by kernel_rfl) (by kernel_rfl) (zd rfl) (za rfl) s5 s6 (zd rfl),
  e_ldP (by kernel_rfl) (zd rfl) (zd rfl),
  zg (x_num x4 v7 e7) rfl rfl rfl rfl,
  trivial⟩ mixed (by kernel_rfl)) rfl rfl rfl rfl
theorem zm8 {w0:World} (e:Xp) (args:(List Int)) (N:Nat) (IH:zmn w0 N) (v1:Bool) (v3:Int) (o2:(List Xp)) (e1:((e.op == (2:Int)))=v1) (e3:((e.l.length:Int))=v3) (h2:v1=false) (L_x_put_A:∀R:Frm,R.pm=⟨ntOf Tryd.prog 24,[],[]⟩→zt (KN w0) Tryd.prog (FL [pI e.op,pI e.n,pLs cE e.l,pLs cI args,pB v1,pI v3,pLs cE o2] [pG cE ([]:List Xp),pG cE o2]) R zmo (lp Tryd.prog 24 0)):Fun (KN w0) Tryd.prog 24 [.o (.g [pI e.op,pI e.n,pLs cE e.l]),.o (.c (pLs cI args))] (.o (.g [pI e.op,pI e.n,pLs cE o2])):=
 zj (zA (F:=FL [pI e.op,pI e.n,pLs cE e.l,pLs cI args,pB v1,pI v3,pLs cE o2] [pG cE ([]:List Xp),pG cE o2]) (C:=[(1000004,.bin .eql 3 (LF (.h 0)) (LF (.k (.int .i64 2))) (LF (.h 4))),
  (10004,.fb 4 false),
  (1000014,.op (.len [28] 3) [LF (.h 2)] [] (LF (.h 5)))]) (k:=⟨24,[.o (.g [.h 0,.h 1,.h 2]),.o (.c (.h 3))],[],.o (.g [.h 0,.h 1,.h 6]),[]⟩) ⟨[zmo],[⟨4,[.bx 10 31 [.h 0,.h 1,.k (.slice none 0 0)],.gn 901],[.bx 10 31 [.h 0,.h 1,.gr 901],.gl 901 31 3 0],[]⟩,⟨9,[.gl 901 31 3 1,.bx 1 31 [.h 0,.h 1,.gr 901]],[.bx 1 31 [.h 0,.h 1,.h 6]],[901]⟩],0⟩ [901] 0 (zi ⟨zb rfl,zb rfl,(ze (zh rfl)),(ze zf),zb rfl,zb rfl,(ze (zh rfl)),trivial⟩ ⟨(zk (zh rfl)),(zk (zh rfl)),trivial⟩) ⟨e_bin (za rfl) zc (za rfl) (r_cmp (congrArg some e1)),
  e_fb (show pV (.bool v1)=_ by rw [h2]),
  zm (E:=31) (by kernel_rfl) (zd rfl) (za (by rw [← e3];rfl)),
  trivial⟩ mixed ⟨zmO (c:=cE) rfl,zmK (c:=cE) (by decide) zp (by decide) (zh rfl) rfl rfl rfl rfl,trivial⟩ (fun R hR p hp s hs=>by
 have hl:zW (qP Tryd.prog 24)=[(5,lp Tryd.prog 24 0)]:=by kernel_rfl
 rw [hl] at hp
 simp only [List.mem_cons,List.not_mem_nil,or_false] at hp
 rcases hp with rfl
 ·have e:s=zmo:=(Option.some.inj hs).symm
  subst e;exact L_x_put_A R hR) (by kernel_rfl)) rfl rfl rfl rfl
theorem znm {w0:World} {N:Nat} (IH:zmn w0 N) (e:Xp) (args:List Int) (r:Xp) (hr:putX args e=r) (hV:Vx args.length e) (hN:nodes e≤N+1):Fun (KN w0) Tryd.prog 24 [.o (.g [pI e.op,pI e.n,pLs cE e.l]),.o (.c (pLs cI args))] (.o (.g [pI r.op,pI r.n,pLs cE r.l])):=by
 obtain ⟨v1,e1⟩:∃v,((e.op == (2:Int)))=v:=⟨_,rfl⟩
 cases h2:v1 with
 | true =>
  obtain ⟨n3,x4,s5,s6⟩:∃(n3:Nat) (x4:Int),e.n=(n3:Int)∧args[n3]?=some x4:=by (have hq:=znj hV (eq_of_beq (e1.trans h2));have hlt:e.n.toNat<args.length:=(by omega);exact ⟨e.n.toNat,_,(Int.toNat_of_nonneg hq.1).symm,List.getElem?_eq_getElem hlt⟩)
  obtain ⟨v7,e7⟩:∃v,((Xp.mk 1 x4 []))=v:=⟨_,rfl⟩
  refine Fun.imp (zm7 e args N IH v1 n3 x4 v7 e1 e7 h2 s5 s6) (fun _ _ _ h=>h) (fun v W D h=>?_)
  have r0:r=v7:=by
   (rw [← hr,zm2 (eq_of_beq (e1.trans h2)),s5,Int.toNat_natCast,List.getD_eq_getElem?_getD,s6];exact e7)
  rw [r0];exact h
 | false =>
  obtain ⟨v3,e3⟩:∃v,((e.l.length:Int))=v:=⟨_,rfl⟩
  obtain ⟨o2,hO_x_put_A⟩:∃(o2:(List Xp)),putL args e.l=o2:=⟨_,rfl⟩
  refine Fun.imp (zm8 e args N IH v1 v3 o2 e1 e3 h2 (fun R hR=>zmL e args N v1 v3 IH  h2 o2 rfl rfl rfl rfl rfl rfl rfl rfl R hR e3 hV hN hO_x_put_A)) (fun _ _ _ h=>h) (fun v W D h=>?_)
  have r0:r=(Xp.mk e.op e.n o2):=by
   (rw [← hr,znh (ne_of_beq_false (e1.trans h2)),hO_x_put_A])
  rw [r0];exact h
theorem zmD {w0:World}:∀N:Nat,zmn w0 N
 | 0=>fun x args e _ _ h=>by have:=qC x;omega
 | N+1=>fun x args e hv hV h=>znm (zmD N) x args e hv hV h
theorem x_put {w0:World} (x:Xp) (args:List Int) (e:Xp) (he:putX args x=e) (hV:Vx args.length x):Fun (KN w0) Tryd.prog 24 [.o (.g [pI x.op,pI x.n,pLs cE x.l]),.o (.c (pLs cI args))] (.o (.g [pI e.op,pI e.n,pLs cE e.l])):=zmD (nodes x) x args e he hV (Nat.le_refl _)
end Go.Proofs.YtdkofaajcpcjkaaDoor
