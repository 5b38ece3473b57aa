/-
  Merged: ExU.
-/
import Derived.Test.YtdkofaajcpcjkaaDoorMaR
set_option linter.unusedSimpArgs false
set_option linter.unusedVariables false
namespace Go.Proofs.YtdkofaajcpcjkaaDoor
open Go.RowKit
def qD (w0:World) (N:Nat):Prop:=∀(g D:Int) (l:List Int) (a:Int) (e:Xp) (p:Int),(madeX g D.toNat (l.drop a.toNat)).1=e→posA l (madeX g D.toNat (l.drop a.toNat)).2=p→0≤D∧D.toNat<N→0≤g∧g≤4→0≤a∧a≤l.length→l.length<9223372036854775807 →
 BFun false (KN w0) Tryd.prog 55 [.o (.c (.p 0 0)),.o (.c (.d (pI g))),.o (.c (.d (pI D)))] [(79,[.d (pLs cI l),.d (pI a)])] (.o (.g [.d (pI e.op),.d (pI e.n),.d (pLs cE e.l)])) [(79,[.d (pLs cI l),.d (pI p)])]
theorem zbW {g D:Int} {L:List Int} (h:D=0∨(drawX L 10).1<4) (hx:(drawX L 10).1%2=1) (hg:0<g):madeX g D.toNat L=(.mk 2 (drawX (drawX L 10).2 g).1 [],(drawX (drawX L 10).2 g).2):=by
 cases hd:D.toNat with
 | zero=>rw [madeX,if_pos ⟨hx,hg⟩]
 | succ d=>rw [madeX,if_pos (h.resolve_left (by omega)),if_pos ⟨hx,hg⟩]
theorem zah {g D:Int} {L:List Int} (h:D=0∨(drawX L 10).1<4) (hx:¬ ((drawX L 10).1%2=1∧0<g)):madeX g D.toNat L=(.mk 1 ((drawX (drawX L 10).2 17).1 - 8) [],(drawX (drawX L 10).2 17).2):=by
 cases hd:D.toNat with
 | zero=>rw [madeX,if_neg hx]
 | succ d=>rw [madeX,if_pos (h.resolve_left (by omega)),if_neg hx]
theorem zhU {g D:Int} {L:List Int} (h:0<D) (hx:¬ (drawX L 10).1<4):madeX g D.toNat L=(.mk (3+(drawX (drawX L 10).2 5).1) 0 [(madeX g (D - 1).toNat (drawX (drawX L 10).2 5).2).1,(madeX g (D - 1).toNat (madeX g (D - 1).toNat (drawX (drawX L 10).2 5).2).2).1],(madeX g (D - 1).toNat (madeX g (D - 1).toNat (drawX (drawX L 10).2 5).2).2).2):=by
 rw [show D.toNat=(D - 1).toNat+1 by omega,madeX,if_neg hx]
theorem ziL {w0:World} (l:(List Int)) (a:Int) (g:Int) (D:Int) (N:Nat) (IH:qD w0 N) (v1:Int) (v2:Int) (v5:Bool) (v7:Int) (v8:Bool) (v10:Bool) (v12:Int) (v13:Int) (e1:((drawX (l.drop (a:Int).toNat) (10:Int)).1)=v1) (e2:(posA l (drawX (l.drop (a:Int).toNat) (10:Int)).2)=v2) (e5:((D == (0:Int)))=v5) (e7:((v1:Int).tmod (2:Int))=v7) (e8:((v7 == (1:Int)))=v8) (e10:(decide (g > (0:Int)))=v10) (e12:((drawX (l.drop (v2:Int).toNat) g).1)=v12) (e13:(posA l (drawX (l.drop (v2:Int).toNat) g).2)=v13) (s3:0≤a∧a≤l.length) (s4:l.length<9223372036854775807) (h6:v5=true) (h9:v8=true) (h11:v10=true) (s14:0≤v2∧v2≤l.length) (s15:l.length<9223372036854775807):BFun false (KN w0) Tryd.prog 55 [.o (.c (.p 0 0)),.o (.c (.d (pI g))),.o (.c (.d (pI D)))] [(79,[.d (pLs cI l),.d (pI a)])] (.o (.g [.d (pV (.int .i64 2)),.d (pI v12),.d (pV (.slice none 0 0))])) [(79,[.d (pLs cI l),.d (pI v13)])] :=
 con_b (pan:=false) (zl (F:=FL [pLs cI l,pI a,pI g,pI D,pI v1,pI v2,pB v5,pI v7,pB v8,pB v10,pI v12,pI v13] []) (C:=[(1000002,.call ⟨72,[.o (.c (.p 900 0)),.o (.c (.k (.int .i64 10)))],[.bx 900 79 [.h 0,.h 1]],.o (.c (.h 4)),[.bx 900 79 [.h 0,.h 5]]⟩),
  (1000005,.bin .eql 3 (LF (.h 3)) (LF (.k (.int .i64 0))) (LF (.h 6))),
  (10006,.fb 6 true),
  (1000011,.bin .rem 3 (LF (.h 4)) (LF (.k (.int .i64 2))) (LF (.h 7))),
  (1000012,.bin .eql 3 (LF (.h 7)) (LF (.k (.int .i64 1))) (LF (.h 8))),
  (10008,.fb 8 true),
  (1000015,.bin .gtr 3 (LF (.h 2)) (LF (.k (.int .i64 0))) (LF (.h 9))),
  (10009,.fb 9 true),
  (1000019,.call ⟨72,[.o (.c (.p 900 0)),.o (.c (.h 2))],[.bx 900 79 [.h 0,.h 5]],.o (.c (.h 10)),[.bx 900 79 [.h 0,.h 11]]⟩)]) (k:=⟨55,[.o (.c (.p 900 0)),.o (.c (.h 2)),.o (.c (.h 3))],[.bx 900 79 [.h 0,.h 1]],.o (.g [.k (.int .i64 2),.h 10,.k (.slice none 0 0)]),[.bx 900 79 [.h 0,.h 11]]⟩) 0 (zi ⟨(ze zf),zb rfl,zb rfl,zb rfl,zb rfl,zb rfl,zb rfl,zb rfl,zb rfl,zb rfl,zb rfl,zb rfl,trivial⟩) ⟨b_con (pan:=false) (qE (10:Int) l a v1 v2 e1 e2 s3 s4) (by kernel_rfl) rfl rfl rfl rfl,
  e_bin (za rfl) zc (za rfl) (r_cmp (congrArg some e5)),
  e_fb (show pV (.bool v5)=_ by rw [h6]),
  e_bin (za rfl) zc (za rfl) (r_ar ((zU (by decide)).trans (congrArg some e7))),
  e_bin (za rfl) zc (za rfl) (r_cmp (congrArg some e8)),
  e_fb (show pV (.bool v8)=_ by rw [h9]),
  e_bin (za rfl) zc (za rfl) (r_cmp (congrArg some e10)),
  e_fb (show pV (.bool v10)=_ by rw [h11]),
  b_con (pan:=false) (qE g l v2 v12 v13 e12 e13 s14 s15) (by kernel_rfl) rfl rfl rfl rfl,
  trivial⟩ mixed (by kernel_rfl)) (by kernel_rfl) rfl rfl rfl rfl
theorem ziM {w0:World} (l:(List Int)) (a:Int) (g:Int) (D:Int) (N:Nat) (IH:qD w0 N) (v1:Int) (v2:Int) (v5:Bool) (v7:Int) (v8:Bool) (v10:Bool) (v12:Int) (v13:Int) (v16:Int) (e1:((drawX (l.drop (a:Int).toNat) (10:Int)).1)=v1) (e2:(posA l (drawX (l.drop (a:Int).toNat) (10:Int)).2)=v2) (e5:((D == (0:Int)))=v5) (e7:((v1:Int).tmod (2:Int))=v7) (e8:((v7 == (1:Int)))=v8) (e10:(decide (g > (0:Int)))=v10) (e12:((drawX (l.drop (v2:Int).toNat) (17:Int)).1)=v12) (e13:(posA l (drawX (l.drop (v2:Int).toNat) (17:Int)).2)=v13) (e16:(IntKind.i64.wrap (v12 - (8:Int)))=v16) (s3:0≤a∧a≤l.length) (s4:l.length<9223372036854775807) (h6:v5=true) (h9:v8=true) (h11:v10=false) (s14:0≤v2∧v2≤l.length) (s15:l.length<9223372036854775807):BFun false (KN w0) Tryd.prog 55 [.o (.c (.p 0 0)),.o (.c (.d (pI g))),.o (.c (.d (pI D)))] [(79,[.d (pLs cI l),.d (pI a)])] (.o (.g [.d (pV (.int .i64 1)),.d (pI v16),.d (pV (.slice none 0 0))])) [(79,[.d (pLs cI l),.d (pI v13)])] :=
 con_b (pan:=false) (zl (F:=FL [pLs cI l,pI a,pI g,pI D,pI v1,pI v2,pB v5,pI v7,pB v8,pB v10,pI v12,pI v13,pI v16] []) (C:=[(1000002,.call ⟨72,[.o (.c (.p 900 0)),.o (.c (.k (.int .i64 10)))],[.bx 900 79 [.h 0,.h 1]],.o (.c (.h 4)),[.bx 900 79 [.h 0,.h 5]]⟩),
  (1000005,.bin .eql 3 (LF (.h 3)) (LF (.k (.int .i64 0))) (LF (.h 6))),
  (10006,.fb 6 true),
  (1000011,.bin .rem 3 (LF (.h 4)) (LF (.k (.int .i64 2))) (LF (.h 7))),
  (1000012,.bin .eql 3 (LF (.h 7)) (LF (.k (.int .i64 1))) (LF (.h 8))),
  (10008,.fb 8 true),
  (1000015,.bin .gtr 3 (LF (.h 2)) (LF (.k (.int .i64 0))) (LF (.h 9))),
  (10009,.fb 9 false),
  (1000018,.call ⟨72,[.o (.c (.p 900 0)),.o (.c (.k (.int .i64 17)))],[.bx 900 79 [.h 0,.h 5]],.o (.c (.h 10)),[.bx 900 79 [.h 0,.h 11]]⟩),
  (1000019,.bin .sub 3 (LF (.h 10)) (LF (.k (.int .i64 8))) (LF (.h 12)))]) (k:=⟨55,[.o (.c (.p 900 0)),.o (.c (.h 2)),.o (.c (.h 3))],[.bx 900 79 [.h 0,.h 1]],.o (.g [.k (.int .i64 1),.h 12,.k (.slice none 0 0)]),[.bx 900 79 [.h 0,.h 11]]⟩) 0 (zi ⟨(ze zf),zb rfl,zb rfl,zb rfl,zb rfl,zb rfl,zb rfl,zb rfl,zb rfl,zb rfl,zb rfl,zb rfl,zb rfl,trivial⟩) ⟨b_con (pan:=false) (qE (10:Int) l a v1 v2 e1 e2 s3 s4) (by kernel_rfl) rfl rfl rfl rfl,
  e_bin (za rfl) zc (za rfl) (r_cmp (congrArg some e5)),
  e_fb (show pV (.bool v5)=_ by rw [h6]),
  e_bin (za rfl) zc (za rfl) (r_ar ((zU (by decide)).trans (congrArg some e7))),
  e_bin (za rfl) zc (za rfl) (r_cmp (congrArg some e8)),
  e_fb (show pV (.bool v8)=_ by rw [h9]),
  e_bin (za rfl) zc (za rfl) (r_cmp (congrArg some e10)),
  e_fb (show pV (.bool v10)=_ by rw [h11]),
  b_con (pan:=false) (qE (17:Int) l v2 v12 v13 e12 e13 s14 s15) (by kernel_rfl) rfl rfl rfl rfl,
  e_bin (za rfl) zc (za rfl) (r_ar (congrArg some e16)),
  trivial⟩ mixed (by kernel_rfl)) (by kernel_rfl) rfl rfl rfl rfl
theorem ziN {w0:World} (l:(List Int)) (a:Int) (g:Int) (D:Int) (N:Nat) (IH:qD w0 N) (v1:Int) (v2:Int) (v5:Bool) (v7:Int) (v8:Bool) (v10:Int) (v11:Int) (v14:Int) (e1:((drawX (l.drop (a:Int).toNat) (10:Int)).1)=v1) (e2:(posA l (drawX (l.drop (a:Int).toNat) (10:Int)).2)=v2) (e5:((D == (0:Int)))=v5) (e7:((v1:Int).tmod (2:Int))=v7) (e8:((v7 == (1:Int)))=v8) (e10:((drawX (l.drop (v2:Int).toNat) (17:Int)).1)=v10) (e11:(posA l (drawX (l.drop (v2:Int).toNat) (17:Int)).2)=v11) (e14:(IntKind.i64.wrap (v10 - (8:Int)))=v14) (s3:0≤a∧a≤l.length) (s4:l.length<9223372036854775807) (h6:v5=true) (h9:v8=false) (s12:0≤v2∧v2≤l.length) (s13:l.length<9223372036854775807):BFun false (KN w0) Tryd.prog 55 [.o (.c (.p 0 0)),.o (.c (.d (pI g))),.o (.c (.d (pI D)))] [(79,[.d (pLs cI l),.d (pI a)])] (.o (.g [.d (pV (.int .i64 1)),.d (pI v14),.d (pV (.slice none 0 0))])) [(79,[.d (pLs cI l),.d (pI v11)])] :=
 con_b (pan:=false) (zl (F:=FL [pLs cI l,pI a,pI g,pI D,pI v1,pI v2,pB v5,pI v7,pB v8,pI v10,pI v11,pI v14] []) (C:=[(1000002,.call ⟨72,[.o (.c (.p 900 0)),.o (.c (.k (.int .i64 10)))],[.bx 900 79 [.h 0,.h 1]],.o (.c (.h 4)),[.bx 900 79 [.h 0,.h 5]]⟩),
  (1000005,.bin .eql 3 (LF (.h 3)) (LF (.k (.int .i64 0))) (LF (.h 6))),
  (10006,.fb 6 true),
  (1000011,.bin .rem 3 (LF (.h 4)) (LF (.k (.int .i64 2))) (LF (.h 7))),
  (1000012,.bin .eql 3 (LF (.h 7)) (LF (.k (.int .i64 1))) (LF (.h 8))),
  (10008,.fb 8 false),
  (1000018,.call ⟨72,[.o (.c (.p 900 0)),.o (.c (.k (.int .i64 17)))],[.bx 900 79 [.h 0,.h 5]],.o (.c (.h 9)),[.bx 900 79 [.h 0,.h 10]]⟩),
  (1000019,.bin .sub 3 (LF (.h 9)) (LF (.k (.int .i64 8))) (LF (.h 11)))]) (k:=⟨55,[.o (.c (.p 900 0)),.o (.c (.h 2)),.o (.c (.h 3))],[.bx 900 79 [.h 0,.h 1]],.o (.g [.k (.int .i64 1),.h 11,.k (.slice none 0 0)]),[.bx 900 79 [.h 0,.h 10]]⟩) 0 (zi ⟨(ze zf),zb rfl,zb rfl,zb rfl,zb rfl,zb rfl,zb rfl,zb rfl,zb rfl,zb rfl,zb rfl,zb rfl,trivial⟩) ⟨b_con (pan:=false) (qE (10:Int) l a v1 v2 e1 e2 s3 s4) (by kernel_rfl) rfl rfl rfl rfl,
  e_bin (za rfl) zc (za rfl) (r_cmp (congrArg some e5)),
  e_fb (show pV (.bool v5)=_ by rw [h6]),
  e_bin (za rfl) zc (za rfl) (r_ar ((zU (by decide)).trans (congrArg some e7))),
  e_bin (za rfl) zc (za rfl) (r_cmp (congrArg some e8)),
  e_fb (show pV (.bool v8)=_ by rw [h9]),
  b_con (pan:=false) (qE (17:Int) l v2 v10 v11 e10 e11 s12 s13) (by kernel_rfl) rfl rfl rfl rfl,
  e_bin (za rfl) zc (za rfl) (r_ar (congrArg some e14)),
  trivial⟩ mixed (by kernel_rfl)) (by kernel_rfl) rfl rfl rfl rfl
theorem ziO {w0:World} (l:(List Int)) (a:Int) (g:Int) (D:Int) (N:Nat) (IH:qD w0 N) (v1:Int) (v2:Int) (v5:Bool) (v7:Bool) (v9:Int) (v10:Bool) (v12:Bool) (v14:Int) (v15:Int) (e1:((drawX (l.drop (a:Int).toNat) (10:Int)).1)=v1) (e2:(posA l (drawX (l.drop (a:Int).toNat) (10:Int)).2)=v2) (e5:((D == (0:Int)))=v5) (e7:(decide (v1<(4:Int)))=v7) (e9:((v1:Int).tmod (2:Int))=v9) (e10:((v9 == (1:Int)))=v10) (e12:(decide (g > (0:Int)))=v12) (e14:((drawX (l.drop (v2:Int).toNat) g).1)=v14) (e15:(posA l (drawX (l.drop (v2:Int).toNat) g).2)=v15) (s3:0≤a∧a≤l.length) (s4:l.length<9223372036854775807) (h6:v5=false) (h8:v7=true) (h11:v10=true) (h13:v12=true) (s16:0≤v2∧v2≤l.length) (s17:l.length<9223372036854775807):BFun false (KN w0) Tryd.prog 55 [.o (.c (.p 0 0)),.o (.c (.d (pI g))),.o (.c (.d (pI D)))] [(79,[.d (pLs cI l),.d (pI a)])] (.o (.g [.d (pV (.int .i64 2)),.d (pI v14),.d (pV (.slice none 0 0))])) [(79,[.d (pLs cI l),.d (pI v15)])] :=
 con_b (pan:=false) (zl (F:=FL [pLs cI l,pI a,pI g,pI D,pI v1,pI v2,pB v5,pB v7,pI v9,pB v10,pB v12,pI v14,pI v15] []) (C:=[(1000002,.call ⟨72,[.o (.c (.p 900 0)),.o (.c (.k (.int .i64 10)))],[.bx 900 79 [.h 0,.h 1]],.o (.c (.h 4)),[.bx 900 79 [.h 0,.h 5]]⟩),
  (1000005,.bin .eql 3 (LF (.h 3)) (LF (.k (.int .i64 0))) (LF (.h 6))),
  (10006,.fb 6 false),
  (1000008,.bin .lss 3 (LF (.h 4)) (LF (.k (.int .i64 4))) (LF (.h 7))),
  (10007,.fb 7 true),
  (1000011,.bin .rem 3 (LF (.h 4)) (LF (.k (.int .i64 2))) (LF (.h 8))),
  (1000012,.bin .eql 3 (LF (.h 8)) (LF (.k (.int .i64 1))) (LF (.h 9))),
  (10009,.fb 9 true),
  (1000015,.bin .gtr 3 (LF (.h 2)) (LF (.k (.int .i64 0))) (LF (.h 10))),
  (10010,.fb 10 true),
  (1000019,.call ⟨72,[.o (.c (.p 900 0)),.o (.c (.h 2))],[.bx 900 79 [.h 0,.h 5]],.o (.c (.h 11)),[.bx 900 79 [.h 0,.h 12]]⟩)]) (k:=⟨55,[.o (.c (.p 900 0)),.o (.c (.h 2)),.o (.c (.h 3))],[.bx 900 79 [.h 0,.h 1]],.o (.g [.k (.int .i64 2),.h 11,.k (.slice none 0 0)]),[.bx 900 79 [.h 0,.h 12]]⟩) 0 (zi ⟨(ze zf),zb rfl,zb rfl,zb rfl,zb rfl,zb rfl,zb rfl,zb rfl,zb rfl,zb rfl,zb rfl,zb rfl,zb rfl,trivial⟩) ⟨b_con (pan:=false) (qE (10:Int) l a v1 v2 e1 e2 s3 s4) (by kernel_rfl) rfl rfl rfl rfl,
  e_bin (za rfl) zc (za rfl) (r_cmp (congrArg some e5)),
  e_fb (show pV (.bool v5)=_ by rw [h6]),
  e_bin (za rfl) zc (za rfl) (r_cmp (congrArg some e7)),
  e_fb (show pV (.bool v7)=_ by rw [h8]),
  e_bin (za rfl) zc (za rfl) (r_ar ((zU (by decide)).trans (congrArg some e9))),
  e_bin (za rfl) zc (za rfl) (r_cmp (congrArg some e10)),
  e_fb (show pV (.bool v10)=_ by rw [h11]),
  e_bin (za rfl) zc (za rfl) (r_cmp (congrArg some e12)),
  e_fb (show pV (.bool v12)=_ by rw [h13]),
  b_con (pan:=false) (qE g l v2 v14 v15 e14 e15 s16 s17) (by kernel_rfl) rfl rfl rfl rfl,
  trivial⟩ mixed (by kernel_rfl)) (by kernel_rfl) rfl rfl rfl rfl
theorem ziP {w0:World} (l:(List Int)) (a:Int) (g:Int) (D:Int) (N:Nat) (IH:qD w0 N) (v1:Int) (v2:Int) (v5:Bool) (v7:Bool) (v9:Int) (v10:Bool) (v12:Bool) (v14:Int) (v15:Int) (v18:Int) (e1:((drawX (l.drop (a:Int).toNat) (10:Int)).1)=v1) (e2:(posA l (drawX (l.drop (a:Int).toNat) (10:Int)).2)=v2) (e5:((D == (0:Int)))=v5) (e7:(decide (v1<(4:Int)))=v7) (e9:((v1:Int).tmod (2:Int))=v9) (e10:((v9 == (1:Int)))=v10) (e12:(decide (g > (0:Int)))=v12) (e14:((drawX (l.drop (v2:Int).toNat) (17:Int)).1)=v14) (e15:(posA l (drawX (l.drop (v2:Int).toNat) (17:Int)).2)=v15) (e18:(IntKind.i64.wrap (v14 - (8:Int)))=v18) (s3:0≤a∧a≤l.length) (s4:l.length<9223372036854775807) (h6:v5=false) (h8:v7=true) (h11:v10=true) (h13:v12=false) (s16:0≤v2∧v2≤l.length) (s17:l.length<9223372036854775807):BFun false (KN w0) Tryd.prog 55 [.o (.c (.p 0 0)),.o (.c (.d (pI g))),.o (.c (.d (pI D)))] [(79,[.d (pLs cI l),.d (pI a)])] (.o (.g [.d (pV (.int .i64 1)),.d (pI v18),.d (pV (.slice none 0 0))])) [(79,[.d (pLs cI l),.d (pI v15)])] :=
 con_b (pan:=false) (zl (F:=FL [pLs cI l,pI a,pI g,pI D,pI v1,pI v2,pB v5,pB v7,pI v9,pB v10,pB v12,pI v14,pI v15,pI v18] []) (C:=[(1000002,.call ⟨72,[.o (.c (.p 900 0)),.o (.c (.k (.int .i64 10)))],[.bx 900 79 [.h 0,.h 1]],.o (.c (.h 4)),[.bx 900 79 [.h 0,.h 5]]⟩),
  (1000005,.bin .eql 3 (LF (.h 3)) (LF (.k (.int .i64 0))) (LF (.h 6))),
  (10006,.fb 6 false),
  (1000008,.bin .lss 3 (LF (.h 4)) (LF (.k (.int .i64 4))) (LF (.h 7))),
  (10007,.fb 7 true),
  (1000011,.bin .rem 3 (LF (.h 4)) (LF (.k (.int .i64 2))) (LF (.h 8))),
  (1000012,.bin .eql 3 (LF (.h 8)) (LF (.k (.int .i64 1))) (LF (.h 9))),
  (10009,.fb 9 true),
  (1000015,.bin .gtr 3 (LF (.h 2)) (LF (.k (.int .i64 0))) (LF (.h 10))),
  (10010,.fb 10 false),
  (1000018,.call ⟨72,[.o (.c (.p 900 0)),.o (.c (.k (.int .i64 17)))],[.bx 900 79 [.h 0,.h 5]],.o (.c (.h 11)),[.bx 900 79 [.h 0,.h 12]]⟩),
  (1000019,.bin .sub 3 (LF (.h 11)) (LF (.k (.int .i64 8))) (LF (.h 13)))]) (k:=⟨55,[.o (.c (.p 900 0)),.o (.c (.h 2)),.o (.c (.h 3))],[.bx 900 79 [.h 0,.h 1]],.o (.g [.k (.int .i64 1),.h 13,.k (.slice none 0 0)]),[.bx 900 79 [.h 0,.h 12]]⟩) 0 (zi ⟨(ze zf),zb rfl,zb rfl,zb rfl,zb rfl,zb rfl,zb rfl,zb rfl,zb rfl,zb rfl,zb rfl,zb rfl,zb rfl,zb rfl,trivial⟩) ⟨b_con (pan:=false) (qE (10:Int) l a v1 v2 e1 e2 s3 s4) (by kernel_rfl) rfl rfl rfl rfl,
  e_bin (za rfl) zc (za rfl) (r_cmp (congrArg some e5)),
  e_fb (show pV (.bool v5)=_ by rw [h6]),
  e_bin (za rfl) zc (za rfl) (r_cmp (congrArg some e7)),
  e_fb (show pV (.bool v7)=_ by rw [h8]),
  e_bin (za rfl) zc (za rfl) (r_ar ((zU (by decide)).trans (congrArg some e9))),
  e_bin (za rfl) zc (za rfl) (r_cmp (congrArg some e10)),
  e_fb (show pV (.bool v10)=_ by rw [h11]),
  e_bin (za rfl) zc (za rfl) (r_cmp (congrArg some e12)),
  e_fb (show pV (.bool v12)=_ by rw [h13]),
  b_con (pan:=false) (qE (17:Int) l v2 v14 v15 e14 e15 s16 s17) (by kernel_rfl) rfl rfl rfl rfl,
  e_bin (za rfl) zc (za rfl) (r_ar (congrArg some e18)),
  trivial⟩ mixed (by kernel_rfl)) (by kernel_rfl) rfl rfl rfl rfl
theorem ziQ {w0:World} (l:(List Int)) (a:Int) (g:Int) (D:Int) (N:Nat) (IH:qD w0 N) (v1:Int) (v2:Int) (v5:Bool) (v7:Bool) (v9:Int) (v10:Bool) (v12:Int) (v13:Int) (v16:Int) (e1:((drawX (l.drop (a:Int).toNat) (10:Int)).1)=v1) (e2:(posA l (drawX (l.drop (a:Int).toNat) (10:Int)).2)=v2) (e5:((D == (0:Int)))=v5) (e7:(decide (v1<(4:Int)))=v7) (e9:((v1:Int).tmod (2:Int))=v9) (e10:((v9 == (1:Int)))=v10) (e12:((drawX (l.drop (v2:Int).toNat) (17:Int)).1)=v12) (e13:(posA l (drawX (l.drop (v2:Int).toNat) (17:Int)).2)=v13) (e16:(IntKind.i64.wrap (v12 - (8:Int)))=v16) (s3:0≤a∧a≤l.length) (s4:l.length<9223372036854775807) (h6:v5=false) (h8:v7=true) (h11:v10=false) (s14:0≤v2∧v2≤l.length) (s15:l.length<9223372036854775807):BFun false (KN w0) Tryd.prog 55 [.o (.c (.p 0 0)),.o (.c (.d (pI g))),.o (.c (.d (pI D)))] [(79,[.d (pLs cI l),.d (pI a)])] (.o (.g [.d (pV (.int .i64 1)),.d (pI v16),.d (pV (.slice none 0 0))])) [(79,[.d (pLs cI l),.d (pI v13)])] :=
 con_b (pan:=false) (zl (F:=FL [pLs cI l,pI a,pI g,pI D,pI v1,pI v2,pB v5,pB v7,pI v9,pB v10,pI v12,pI v13,pI v16] []) (C:=[(1000002,.call ⟨72,[.o (.c (.p 900 0)),.o (.c (.k (.int .i64 10)))],[.bx 900 79 [.h 0,.h 1]],.o (.c (.h 4)),[.bx 900 79 [.h 0,.h 5]]⟩),
  (1000005,.bin .eql 3 (LF (.h 3)) (LF (.k (.int .i64 0))) (LF (.h 6))),
  (10006,.fb 6 false),
  (1000008,.bin .lss 3 (LF (.h 4)) (LF (.k (.int .i64 4))) (LF (.h 7))),
  (10007,.fb 7 true),
  (1000011,.bin .rem 3 (LF (.h 4)) (LF (.k (.int .i64 2))) (LF (.h 8))),
  (1000012,.bin .eql 3 (LF (.h 8)) (LF (.k (.int .i64 1))) (LF (.h 9))),
  (10009,.fb 9 false),
  (1000018,.call ⟨72,[.o (.c (.p 900 0)),.o (.c (.k (.int .i64 17)))],[.bx 900 79 [.h 0,.h 5]],.o (.c (.h 10)),[.bx 900 79 [.h 0,.h 11]]⟩),
  (1000019,.bin .sub 3 (LF (.h 10)) (LF (.k (.int .i64 8))) (LF (.h 12)))]) (k:=⟨55,[.o (.c (.p 900 0)),.o (.c (.h 2)),.o (.c (.h 3))],[.bx 900 79 [.h 0,.h 1]],.o (.g [.k (.int .i64 1),.h 12,.k (.slice none 0 0)]),[.bx 900 79 [.h 0,.h 11]]⟩) 0 (zi ⟨(ze zf),zb rfl,zb rfl,zb rfl,zb rfl,zb rfl,zb rfl,zb rfl,zb rfl,zb rfl,zb rfl,zb rfl,zb rfl,trivial⟩) ⟨b_con (pan:=false) (qE (10:Int) l a v1 v2 e1 e2 s3 s4) (by kernel_rfl) rfl rfl rfl rfl,
  e_bin (za rfl) zc (za rfl) (r_cmp (congrArg some e5)),
  e_fb (show pV (.bool v5)=_ by rw [h6]),
  e_bin (za rfl) zc (za rfl) (r_cmp (congrArg some e7)),
  e_fb (show pV (.bool v7)=_ by rw [h8]),
  e_bin (za rfl) zc (za rfl) (r_ar ((zU (by decide)).trans (congrArg some e9))),
  e_bin (za rfl) zc (za rfl) (r_cmp (congrArg some e10)),
  e_fb (show pV (.bool v10)=_ by rw [h11]),
  b_con (pan:=false) (qE (17:Int) l v2 v12 v13 e12 e13 s14 s15) (by kernel_rfl) rfl rfl rfl rfl,
  e_bin (za rfl) zc (za rfl) (r_ar (congrArg some e16)),
  trivial⟩ mixed (by kernel_rfl)) (by kernel_rfl) rfl rfl rfl rfl
theorem ziR {w0:World} (l:(List Int)) (a:Int) (g:Int) (D:Int) (N:Nat) (IH:qD w0 N) (v1:Int) (v2:Int) (v5:Bool) (v7:Bool) (v9:Int) (v10:Int) (v13:Int) (v14:Int) (v15:Xp) (v16:Int) (v21:Int) (v22:Xp) (v23:Int) (v28:(List Xp)) (e1:((drawX (l.drop (a:Int).toNat) (10:Int)).1)=v1) (e2:(posA l (drawX (l.drop (a:Int).toNat) (10:Int)).2)=v2) (e5:((D == (0:Int)))=v5) (e7:(decide (v1<(4:Int)))=v7) (e9:((drawX (l.drop (v2:Int).toNat) (5:Int)).1)=v9) (e10:(posA l (drawX (l.drop (v2:Int).toNat) (5:Int)).2)=v10) (e13:(IntKind.i64.wrap ((3:Int)+v9))=v13) (e14:(IntKind.i64.wrap (D - (1:Int)))=v14) (e15:((madeX g (v14:Int).toNat (l.drop (v10:Int).toNat)).1)=v15) (e16:(posA l (madeX g (v14:Int).toNat (l.drop (v10:Int).toNat)).2)=v16) (e21:(IntKind.i64.wrap (D - (1:Int)))=v21) (e22:((madeX g (v21:Int).toNat (l.drop (v16:Int).toNat)).1)=v22) (e23:(posA l (madeX g (v21:Int).toNat (l.drop (v16:Int).toNat)).2)=v23) (e28:(([v15,v22]:List Xp))=v28) (s3:0≤a∧a≤l.length) (s4:l.length<9223372036854775807) (h6:v5=false) (h8:v7=false) (s11:0≤v2∧v2≤l.length) (s12:l.length<9223372036854775807) (s17:0≤v14∧(v14:Int).toNat<N) (s18:0≤g∧g≤4) (s19:0≤v10∧v10≤l.length) (s20:l.length<9223372036854775807) (s24:0≤v21∧(v21:Int).toNat<N) (s25:0≤g∧g≤4) (s26:0≤v16∧v16≤l.length) (s27:l.length<9223372036854775807):BFun false (KN w0) Tryd.prog 55 [.o (.c (.p 0 0)),.o (.c (.d (pI g))),.o (.c (.d (pI D)))] [(79,[.d (pLs cI l),.d (pI a)])] (.o (.g [.d (pI v13),.d (pV (.int .i64 0)),.d (pLs cE v28)])) [(79,[.d (pLs cI l),.d (pI v23)])] :=
 con_b (pan:=false) (zl (F:=FL [pLs cI l,pI a,pI g,pI D,pI v1,pI v2,pB v5,pB v7,pI v9,pI v10,pI v13,pI v14,pI v15.op,pI v15.n,pLs cE v15.l,pI v16,pI v21,pI v22.op,pI v22.n,pLs cE v22.l,pI v23,pLs cE v28] []) (C:=[(1000002,.call ⟨72,[.o (.c (.p 900 0)),.o (.c (.k (.int .i64 10)))],[.bx 900 79 [.h 0,.h 1]],.o (.c (.h 4)),[.bx 900 79 [.h 0,.h 5]]⟩),
  (1000005,.bin .eql 3 (LF (.h 3)) (LF (.k (.int .i64 0))) (LF (.h 6))),
  (10006,.fb 6 false),
  (1000008,.bin .lss 3 (LF (.h 4)) (LF (.k (.int .i64 4))) (LF (.h 7))),
  (10007,.fb 7 false),
  (1000011,.call ⟨72,[.o (.c (.p 900 0)),.o (.c (.k (.int .i64 5)))],[.bx 900 79 [.h 0,.h 5]],.o (.c (.h 8)),[.bx 900 79 [.h 0,.h 9]]⟩),
  (1000012,.bin .add 3 (LF (.k (.int .i64 3))) (LF (.h 8)) (LF (.h 10))),
  (1000017,.bin .sub 3 (LF (.h 3)) (LF (.k (.int .i64 1))) (LF (.h 11))),
  (1000018,.call ⟨55,[.o (.c (.p 900 0)),.o (.c (.h 2)),.o (.c (.h 11))],[.bx 900 79 [.h 0,.h 9]],.o (.g [.h 12,.h 13,.h 14]),[.bx 900 79 [.h 0,.h 15]]⟩),
  (1000024,.bin .sub 3 (LF (.h 3)) (LF (.k (.int .i64 1))) (LF (.h 16))),
  (1000025,.call ⟨55,[.o (.c (.p 900 0)),.o (.c (.h 2)),.o (.c (.h 16))],[.bx 900 79 [.h 0,.h 15]],.o (.g [.h 17,.h 18,.h 19]),[.bx 900 79 [.h 0,.h 20]]⟩),
  (1000031,.dat 31 2 [.h 12,.h 13,.h 14,.h 17,.h 18,.h 19] 21)]) (k:=⟨55,[.o (.c (.p 900 0)),.o (.c (.h 2)),.o (.c (.h 3))],[.bx 900 79 [.h 0,.h 1]],.o (.g [.h 10,.k (.int .i64 0),.h 21]),[.bx 900 79 [.h 0,.h 20]]⟩) 0 (zi ⟨(ze zf),zb rfl,zb rfl,zb rfl,zb rfl,zb rfl,zb rfl,zb rfl,zb rfl,zb rfl,zb rfl,zb rfl,zb rfl,zb rfl,(ze (zh rfl)),zb rfl,zb rfl,zb rfl,zb rfl,(ze (zh rfl)),zb rfl,(ze (zh rfl)),trivial⟩) ⟨b_con (pan:=false) (qE (10:Int) l a v1 v2 e1 e2 s3 s4) (by kernel_rfl) rfl rfl rfl rfl,
  e_bin (za rfl) zc (za rfl) (r_cmp (congrArg some e5)),
  e_fb (show pV (.bool v5)=_ by rw [h6]),
  e_bin (za rfl) zc (za rfl) (r_cmp (congrArg some e7)),
  e_fb (show pV (.bool v7)=_ by rw [h8]),
  b_con (pan:=false) (qE (5:Int) l v2 v9 v10 e9 e10 s11 s12) (by kernel_rfl) rfl rfl rfl rfl,
  e_bin zc (za rfl) (za rfl) (r_ar (congrArg some e13)),
  e_bin (za rfl) zc (za rfl) (r_ar (congrArg some e14)),
  b_con (pan:=false) (IH g v14 l v10 v15 v16 e15 e16 s17 s18 s19 s20) (by kernel_rfl) rfl rfl rfl rfl,
  e_bin (za rfl) zc (za rfl) (r_ar (congrArg some e21)),
  b_con (pan:=false) (IH g v21 l v16 v22 v23 e22 e23 s24 s25 s26 s27) (by kernel_rfl) rfl rfl rfl rfl,
  e_dat (c:=cE) (ps:=(pI v15.op::pI v15.n::pLs cE v15.l::pI v22.op::pI v22.n::pLs cE v22.l::[])) (qs:=(pI v15.op::pI v15.n::pLs cE v15.l::pI v22.op::pI v22.n::pLs cE v22.l::[])) (by rw [← e28];rfl) rfl rfl ((flatE _).trans rfl) (pimps (fun _ _ _ h=>h) <| pimps (fun _ _ _ h=>h) <| pimps (fun _ _ _ h=>h) <| pimps (fun _ _ _ h=>h) <| pimps (fun _ _ _ h=>h) <| pimps (fun _ _ _ h=>h) <| zap) rfl,
  trivial⟩ mixed (by kernel_rfl)) (by kernel_rfl) rfl rfl rfl rfl
theorem zjU {w0:World} {N:Nat} (IH:qD w0 N) (g D:Int) (l:List Int) (a:Int) (e:Xp) (p:Int) (he:(madeX g D.toNat (l.drop a.toNat)).1=e) (hp:posA l (madeX g D.toNat (l.drop a.toNat)).2=p) (hD:0≤D∧D.toNat<N+1) (hg:0≤g∧g≤4) (ha:0≤a∧a≤l.length) (hl:l.length<9223372036854775807) (hN:N≤1000):BFun false (KN w0) Tryd.prog 55 [.o (.c (.p 0 0)),.o (.c (.d (pI g))),.o (.c (.d (pI D)))] [(79,[.d (pLs cI l),.d (pI a)])] (.o (.g [.d (pI e.op),.d (pI e.n),.d (pLs cE e.l)])) [(79,[.d (pLs cI l),.d (pI p)])]:=by
 obtain ⟨v1,e1⟩:∃v,((drawX (l.drop (a:Int).toNat) (10:Int)).1)=v:=⟨_,rfl⟩
 obtain ⟨v2,e2⟩:∃v,(posA l (drawX (l.drop (a:Int).toNat) (10:Int)).2)=v:=⟨_,rfl⟩
 have s3:0≤a∧a≤l.length:=by exact ha
 have s4:l.length<9223372036854775807:=by exact hl
 obtain ⟨v5,e5⟩:∃v,((D == (0:Int)))=v:=⟨_,rfl⟩
 cases h6:v5 with
 | true =>
  obtain ⟨v7,e7⟩:∃v,((v1:Int).tmod (2:Int))=v:=⟨_,rfl⟩
  obtain ⟨v8,e8⟩:∃v,((v7 == (1:Int)))=v:=⟨_,rfl⟩
  cases h9:v8 with
  | true =>
   obtain ⟨v10,e10⟩:∃v,(decide (g > (0:Int)))=v:=⟨_,rfl⟩
   cases h11:v10 with
   | true =>
    obtain ⟨v12,e12⟩:∃v,((drawX (l.drop (v2:Int).toNat) g).1)=v:=⟨_,rfl⟩
    obtain ⟨v13,e13⟩:∃v,(posA l (drawX (l.drop (v2:Int).toNat) g).2)=v:=⟨_,rfl⟩
    have s14:0≤v2∧v2≤l.length:=by (have dh6:=eq_of_beq (e5.trans h6);have dh9:=eq_of_beq (e8.trans h9);have dh11:=of_decide_eq_true (e10.trans h11);have rv1:0≤v1∧v1<10:=(e1 ▸ zq (by omega) (by omega));have sv2:=zz ((zn _ _).trans (List.drop_suffix _ _)) e2;have qv7:v7=v1%2:=(by rw [← e7,Int.tmod_eq_emod_of_nonneg (by omega)]);have rv12:0≤v12∧v12<g:=(e12 ▸ zq (by omega) (by omega));have sv13:=zz ((zn _ _).trans (List.drop_suffix _ _)) e13;exact sv2.2)
    have s15:l.length<9223372036854775807:=by exact hl
    have r0:e=(Xp.mk (2:Int) v12 []):=by
     (have dh6:=eq_of_beq (e5.trans h6);have dh9:=eq_of_beq (e8.trans h9);have dh11:=of_decide_eq_true (e10.trans h11);have rv1:0≤v1∧v1<10:=(e1 ▸ zq (by omega) (by omega));have sv2:=zz ((zn _ _).trans (List.drop_suffix _ _)) e2;have qv7:v7=v1%2:=(by rw [← e7,Int.tmod_eq_emod_of_nonneg (by omega)]);have rv12:0≤v12∧v12<g:=(e12 ▸ zq (by omega) (by omega));have sv13:=zz ((zn _ _).trans (List.drop_suffix _ _)) e13;have z:=zbW (g:=g) (D:=D) (L:=l.drop a.toNat) (by rw [e1];omega) (by rw [e1];omega) (by omega);rw [z,← sv2.1] at he hp;first | (rw [← hp];exact e13) | (rw [e12] at he;rw [← he]))
    have r1:p=v13:=by
     (have dh6:=eq_of_beq (e5.trans h6);have dh9:=eq_of_beq (e8.trans h9);have dh11:=of_decide_eq_true (e10.trans h11);have rv1:0≤v1∧v1<10:=(e1 ▸ zq (by omega) (by omega));have sv2:=zz ((zn _ _).trans (List.drop_suffix _ _)) e2;have qv7:v7=v1%2:=(by rw [← e7,Int.tmod_eq_emod_of_nonneg (by omega)]);have rv12:0≤v12∧v12<g:=(e12 ▸ zq (by omega) (by omega));have sv13:=zz ((zn _ _).trans (List.drop_suffix _ _)) e13;have z:=zbW (g:=g) (D:=D) (L:=l.drop a.toNat) (by rw [e1];omega) (by rw [e1];omega) (by omega);rw [z,← sv2.1] at he hp;first | (rw [← hp];exact e13) | (rw [e12] at he;rw [← he]))
    rw [r0,r1];exact BFun.imp (ziL l a g D N IH v1 v2 v5 v7 v8 v10 v12 v13 e1 e2 e5 e7 e8 e10 e12 e13 s3 s4 h6 h9 h11 s14 s15) (zaE) (fun _ _ _ h=>h)
   | false =>
    obtain ⟨v12,e12⟩:∃v,((drawX (l.drop (v2:Int).toNat) (17:Int)).1)=v:=⟨_,rfl⟩
    obtain ⟨v13,e13⟩:∃v,(posA l (drawX (l.drop (v2:Int).toNat) (17:Int)).2)=v:=⟨_,rfl⟩
    have s14:0≤v2∧v2≤l.length:=by (have dh6:=eq_of_beq (e5.trans h6);have dh9:=eq_of_beq (e8.trans h9);have dh11:=of_decide_eq_false (e10.trans h11);have rv1:0≤v1∧v1<10:=(e1 ▸ zq (by omega) (by omega));have sv2:=zz ((zn _ _).trans (List.drop_suffix _ _)) e2;have qv7:v7=v1%2:=(by rw [← e7,Int.tmod_eq_emod_of_nonneg (by omega)]);have rv12:0≤v12∧v12<17:=(e12 ▸ zq (by omega) (by omega));have sv13:=zz ((zn _ _).trans (List.drop_suffix _ _)) e13;exact sv2.2)
    have s15:l.length<9223372036854775807:=by exact hl
    obtain ⟨v16,e16⟩:∃v,(IntKind.i64.wrap (v12 - (8:Int)))=v:=⟨_,rfl⟩
    have r0:e=(Xp.mk (1:Int) v16 []):=by
     (have dh6:=eq_of_beq (e5.trans h6);have dh9:=eq_of_beq (e8.trans h9);have dh11:=of_decide_eq_false (e10.trans h11);have rv1:0≤v1∧v1<10:=(e1 ▸ zq (by omega) (by omega));have sv2:=zz ((zn _ _).trans (List.drop_suffix _ _)) e2;have qv7:v7=v1%2:=(by rw [← e7,Int.tmod_eq_emod_of_nonneg (by omega)]);have rv12:0≤v12∧v12<17:=(e12 ▸ zq (by omega) (by omega));have sv13:=zz ((zn _ _).trans (List.drop_suffix _ _)) e13;have qv16:v16=v12 - 8:=(by rw [← e16,wri (by omega)]);have z:=zah (g:=g) (D:=D) (L:=l.drop a.toNat) (by rw [e1];omega) (by rw [e1];omega);rw [z,← sv2.1] at he hp;first | (rw [← hp];exact e13) | (rw [e12] at he;rw [← he,← qv16]))
    have r1:p=v13:=by
     (have dh6:=eq_of_beq (e5.trans h6);have dh9:=eq_of_beq (e8.trans h9);have dh11:=of_decide_eq_false (e10.trans h11);have rv1:0≤v1∧v1<10:=(e1 ▸ zq (by omega) (by omega));have sv2:=zz ((zn _ _).trans (List.drop_suffix _ _)) e2;have qv7:v7=v1%2:=(by rw [← e7,Int.tmod_eq_emod_of_nonneg (by omega)]);have rv12:0≤v12∧v12<17:=(e12 ▸ zq (by omega) (by omega));have sv13:=zz ((zn _ _).trans (List.drop_suffix _ _)) e13;have qv16:v16=v12 - 8:=(by rw [← e16,wri (by omega)]);have z:=zah (g:=g) (D:=D) (L:=l.drop a.toNat) (by rw [e1];omega) (by rw [e1];omega);rw [z,← sv2.1] at he hp;first | (rw [← hp];exact e13) | (rw [e12] at he;rw [← he,← qv16]))
    rw [r0,r1];exact BFun.imp (ziM l a g D N IH v1 v2 v5 v7 v8 v10 v12 v13 v16 e1 e2 e5 e7 e8 e10 e12 e13 e16 s3 s4 h6 h9 h11 s14 s15) (zaE) (fun _ _ _ h=>h)
  | false =>
   obtain ⟨v10,e10⟩:∃v,((drawX (l.drop (v2:Int).toNat) (17:Int)).1)=v:=⟨_,rfl⟩
   obtain ⟨v11,e11⟩:∃v,(posA l (drawX (l.drop (v2:Int).toNat) (17:Int)).2)=v:=⟨_,rfl⟩
   have s12:0≤v2∧v2≤l.length:=by (have dh6:=eq_of_beq (e5.trans h6);have dh9:=ne_of_beq_false (e8.trans h9);have rv1:0≤v1∧v1<10:=(e1 ▸ zq (by omega) (by omega));have sv2:=zz ((zn _ _).trans (List.drop_suffix _ _)) e2;have qv7:v7=v1%2:=(by rw [← e7,Int.tmod_eq_emod_of_nonneg (by omega)]);have rv10:0≤v10∧v10<17:=(e10 ▸ zq (by omega) (by omega));have sv11:=zz ((zn _ _).trans (List.drop_suffix _ _)) e11;exact sv2.2)
   have s13:l.length<9223372036854775807:=by exact hl
   obtain ⟨v14,e14⟩:∃v,(IntKind.i64.wrap (v10 - (8:Int)))=v:=⟨_,rfl⟩
   have r0:e=(Xp.mk (1:Int) v14 []):=by
    (have dh6:=eq_of_beq (e5.trans h6);have dh9:=ne_of_beq_false (e8.trans h9);have rv1:0≤v1∧v1<10:=(e1 ▸ zq (by omega) (by omega));have sv2:=zz ((zn _ _).trans (List.drop_suffix _ _)) e2;have qv7:v7=v1%2:=(by rw [← e7,Int.tmod_eq_emod_of_nonneg (by omega)]);have rv10:0≤v10∧v10<17:=(e10 ▸ zq (by omega) (by omega));have sv11:=zz ((zn _ _).trans (List.drop_suffix _ _)) e11;have qv14:v14=v10 - 8:=(by rw [← e14,wri (by omega)]);have z:=zah (g:=g) (D:=D) (L:=l.drop a.toNat) (by rw [e1];omega) (by rw [e1];omega);rw [z,← sv2.1] at he hp;first | (rw [← hp];exact e11) | (rw [e10] at he;rw [← he,← qv14]))
   have r1:p=v11:=by
    (have dh6:=eq_of_beq (e5.trans h6);have dh9:=ne_of_beq_false (e8.trans h9);have rv1:0≤v1∧v1<10:=(e1 ▸ zq (by omega) (by omega));have sv2:=zz ((zn _ _).trans (List.drop_suffix _ _)) e2;have qv7:v7=v1%2:=(by rw [← e7,Int.tmod_eq_emod_of_nonneg (by omega)]);have rv10:0≤v10∧v10<17:=(e10 ▸ zq (by omega) (by omega));have sv11:=zz ((zn _ _).trans (List.drop_suffix _ _)) e11;have qv14:v14=v10 - 8:=(by rw [← e14,wri (by omega)]);have z:=zah (g:=g) (D:=D) (L:=l.drop a.toNat) (by rw [e1];omega) (by rw [e1];omega);rw [z,← sv2.1] at he hp;first | (rw [← hp];exact e11) | (rw [e10] at he;rw [← he,← qv14]))
   rw [r0,r1];exact BFun.imp (ziN l a g D N IH v1 v2 v5 v7 v8 v10 v11 v14 e1 e2 e5 e7 e8 e10 e11 e14 s3 s4 h6 h9 s12 s13) (zaE) (fun _ _ _ h=>h)
 | false =>
  obtain ⟨v7,e7⟩:∃v,(decide (v1<(4:Int)))=v:=⟨_,rfl⟩
  cases h8:v7 with
  | true =>
   obtain ⟨v9,e9⟩:∃v,((v1:Int).tmod (2:Int))=v:=⟨_,rfl⟩
   obtain ⟨v10,e10⟩:∃v,((v9 == (1:Int)))=v:=⟨_,rfl⟩
   cases h11:v10 with
   | true =>
    obtain ⟨v12,e12⟩:∃v,(decide (g > (0:Int)))=v:=⟨_,rfl⟩
    cases h13:v12 with
    | true =>
     obtain ⟨v14,e14⟩:∃v,((drawX (l.drop (v2:Int).toNat) g).1)=v:=⟨_,rfl⟩
     obtain ⟨v15,e15⟩:∃v,(posA l (drawX (l.drop (v2:Int).toNat) g).2)=v:=⟨_,rfl⟩
     have s16:0≤v2∧v2≤l.length:=by (have dh6:=ne_of_beq_false (e5.trans h6);have dh8:=of_decide_eq_true (e7.trans h8);have dh11:=eq_of_beq (e10.trans h11);have dh13:=of_decide_eq_true (e12.trans h13);have rv1:0≤v1∧v1<10:=(e1 ▸ zq (by omega) (by omega));have sv2:=zz ((zn _ _).trans (List.drop_suffix _ _)) e2;have qv9:v9=v1%2:=(by rw [← e9,Int.tmod_eq_emod_of_nonneg (by omega)]);have rv14:0≤v14∧v14<g:=(e14 ▸ zq (by omega) (by omega));have sv15:=zz ((zn _ _).trans (List.drop_suffix _ _)) e15;exact sv2.2)
     have s17:l.length<9223372036854775807:=by exact hl
     have r0:e=(Xp.mk (2:Int) v14 []):=by
      (have dh6:=ne_of_beq_false (e5.trans h6);have dh8:=of_decide_eq_true (e7.trans h8);have dh11:=eq_of_beq (e10.trans h11);have dh13:=of_decide_eq_true (e12.trans h13);have rv1:0≤v1∧v1<10:=(e1 ▸ zq (by omega) (by omega));have sv2:=zz ((zn _ _).trans (List.drop_suffix _ _)) e2;have qv9:v9=v1%2:=(by rw [← e9,Int.tmod_eq_emod_of_nonneg (by omega)]);have rv14:0≤v14∧v14<g:=(e14 ▸ zq (by omega) (by omega));have sv15:=zz ((zn _ _).trans (List.drop_suffix _ _)) e15;have z:=zbW (g:=g) (D:=D) (L:=l.drop a.toNat) (by rw [e1];omega) (by rw [e1];omega) (by omega);rw [z,← sv2.1] at he hp;first | (rw [← hp];exact e15) | (rw [e14] at he;rw [← he]))
     have r1:p=v15:=by
      (have dh6:=ne_of_beq_false (e5.trans h6);have dh8:=of_decide_eq_true (e7.trans h8);have dh11:=eq_of_beq (e10.trans h11);have dh13:=of_decide_eq_true (e12.trans h13);have rv1:0≤v1∧v1<10:=(e1 ▸ zq (by omega) (by omega));have sv2:=zz ((zn _ _).trans (List.drop_suffix _ _)) e2;have qv9:v9=v1%2:=(by rw [← e9,Int.tmod_eq_emod_of_nonneg (by omega)]);have rv14:0≤v14∧v14<g:=(e14 ▸ zq (by omega) (by omega));have sv15:=zz ((zn _ _).trans (List.drop_suffix _ _)) e15;have z:=zbW (g:=g) (D:=D) (L:=l.drop a.toNat) (by rw [e1];omega) (by rw [e1];omega) (by omega);rw [z,← sv2.1] at he hp;first | (rw [← hp];exact e15) | (rw [e14] at he;rw [← he]))
     rw [r0,r1];exact BFun.imp (ziO l a g D N IH v1 v2 v5 v7 v9 v10 v12 v14 v15 e1 e2 e5 e7 e9 e10 e12 e14 e15 s3 s4 h6 h8 h11 h13 s16 s17) (zaE) (fun _ _ _ h=>h)
    | false =>
     obtain ⟨v14,e14⟩:∃v,((drawX (l.drop (v2:Int).toNat) (17:Int)).1)=v:=⟨_,rfl⟩
     obtain ⟨v15,e15⟩:∃v,(posA l (drawX (l.drop (v2:Int).toNat) (17:Int)).2)=v:=⟨_,rfl⟩
     have s16:0≤v2∧v2≤l.length:=by (have dh6:=ne_of_beq_false (e5.trans h6);have dh8:=of_decide_eq_true (e7.trans h8);have dh11:=eq_of_beq (e10.trans h11);have dh13:=of_decide_eq_false (e12.trans h13);have rv1:0≤v1∧v1<10:=(e1 ▸ zq (by omega) (by omega));have sv2:=zz ((zn _ _).trans (List.drop_suffix _ _)) e2;have qv9:v9=v1%2:=(by rw [← e9,Int.tmod_eq_emod_of_nonneg (by omega)]);have rv14:0≤v14∧v14<17:=(e14 ▸ zq (by omega) (by omega));have sv15:=zz ((zn _ _).trans (List.drop_suffix _ _)) e15;exact sv2.2)
     have s17:l.length<9223372036854775807:=by exact hl
     obtain ⟨v18,e18⟩:∃v,(IntKind.i64.wrap (v14 - (8:Int)))=v:=⟨_,rfl⟩
     have r0:e=(Xp.mk (1:Int) v18 []):=by
      (have dh6:=ne_of_beq_false (e5.trans h6);have dh8:=of_decide_eq_true (e7.trans h8);have dh11:=eq_of_beq (e10.trans h11);have dh13:=of_decide_eq_false (e12.trans h13);have rv1:0≤v1∧v1<10:=(e1 ▸ zq (by omega) (by omega));have sv2:=zz ((zn _ _).trans (List.drop_suffix _ _)) e2;have qv9:v9=v1%2:=(by rw [← e9,Int.tmod_eq_emod_of_nonneg (by omega)]);have rv14:0≤v14∧v14<17:=(e14 ▸ zq (by omega) (by omega));have sv15:=zz ((zn _ _).trans (List.drop_suffix _ _)) e15;have qv18:v18=v14 - 8:=(by rw [← e18,wri (by omega)]);have z:=zah (g:=g) (D:=D) (L:=l.drop a.toNat) (by rw [e1];omega) (by rw [e1];omega);rw [z,← sv2.1] at he hp;first | (rw [← hp];exact e15) | (rw [e14] at he;rw [← he,← qv18]))
     have r1:p=v15:=by
      (have dh6:=ne_of_beq_false (e5.trans h6);have dh8:=of_decide_eq_true (e7.trans h8);have dh11:=eq_of_beq (e10.trans h11);have dh13:=of_decide_eq_false (e12.trans h13);have rv1:0≤v1∧v1<10:=(e1 ▸ zq (by omega) (by omega));have sv2:=zz ((zn _ _).trans (List.drop_suffix _ _)) e2;have qv9:v9=v1%2:=(by rw [← e9,Int.tmod_eq_emod_of_nonneg (by omega)]);have rv14:0≤v14∧v14<17:=(e14 ▸ zq (by omega) (by omega));have sv15:=zz ((zn _ _).trans (List.drop_suffix _ _)) e15;have qv18:v18=v14 - 8:=(by rw [← e18,wri (by omega)]);have z:=zah (g:=g) (D:=D) (L:=l.drop a.toNat) (by rw [e1];omega) (by rw [e1];omega);rw [z,← sv2.1] at he hp;first | (rw [← hp];exact e15) | (rw [e14] at he;rw [← he,← qv18]))
     rw [r0,r1];exact BFun.imp (ziP l a g D N IH v1 v2 v5 v7 v9 v10 v12 v14 v15 v18 e1 e2 e5 e7 e9 e10 e12 e14 e15 e18 s3 s4 h6 h8 h11 h13 s16 s17) (zaE) (fun _ _ _ h=>h)
   | false =>
    obtain ⟨v12,e12⟩:∃v,((drawX (l.drop (v2:Int).toNat) (17:Int)).1)=v:=⟨_,rfl⟩
    obtain ⟨v13,e13⟩:∃v,(posA l (drawX (l.drop (v2:Int).toNat) (17:Int)).2)=v:=⟨_,rfl⟩
    have s14:0≤v2∧v2≤l.length:=by (have dh6:=ne_of_beq_false (e5.trans h6);have dh8:=of_decide_eq_true (e7.trans h8);have dh11:=ne_of_beq_false (e10.trans h11);have rv1:0≤v1∧v1<10:=(e1 ▸ zq (by omega) (by omega));have sv2:=zz ((zn _ _).trans (List.drop_suffix _ _)) e2;have qv9:v9=v1%2:=(by rw [← e9,Int.tmod_eq_emod_of_nonneg (by omega)]);have rv12:0≤v12∧v12<17:=(e12 ▸ zq (by omega) (by omega));have sv13:=zz ((zn _ _).trans (List.drop_suffix _ _)) e13;exact sv2.2)
    have s15:l.length<9223372036854775807:=by exact hl
    obtain ⟨v16,e16⟩:∃v,(IntKind.i64.wrap (v12 - (8:Int)))=v:=⟨_,rfl⟩
    have r0:e=(Xp.mk (1:Int) v16 []):=by
     (have dh6:=ne_of_beq_false (e5.trans h6);have dh8:=of_decide_eq_true (e7.trans h8);have dh11:=ne_of_beq_false (e10.trans h11);have rv1:0≤v1∧v1<10:=(e1 ▸ zq (by omega) (by omega));have sv2:=zz ((zn _ _).trans (List.drop_suffix _ _)) e2;have qv9:v9=v1%2:=(by rw [← e9,Int.tmod_eq_emod_of_nonneg (by omega)]);have rv12:0≤v12∧v12<17:=(e12 ▸ zq (by omega) (by omega));have sv13:=zz ((zn _ _).trans (List.drop_suffix _ _)) e13;have qv16:v16=v12 - 8:=(by rw [← e16,wri (by omega)]);have z:=zah (g:=g) (D:=D) (L:=l.drop a.toNat) (by rw [e1];omega) (by rw [e1];omega);rw [z,← sv2.1] at he hp;first | (rw [← hp];exact e13) | (rw [e12] at he;rw [← he,← qv16]))
    have r1:p=v13:=by
     (have dh6:=ne_of_beq_false (e5.trans h6);have dh8:=of_decide_eq_true (e7.trans h8);have dh11:=ne_of_beq_false (e10.trans h11);have rv1:0≤v1∧v1<10:=(e1 ▸ zq (by omega) (by omega));have sv2:=zz ((zn _ _).trans (List.drop_suffix _ _)) e2;have qv9:v9=v1%2:=(by rw [← e9,Int.tmod_eq_emod_of_nonneg (by omega)]);have rv12:0≤v12∧v12<17:=(e12 ▸ zq (by omega) (by omega));have sv13:=zz ((zn _ _).trans (List.drop_suffix _ _)) e13;have qv16:v16=v12 - 8:=(by rw [← e16,wri (by omega)]);have z:=zah (g:=g) (D:=D) (L:=l.drop a.toNat) (by rw [e1];omega) (by rw [e1];omega);rw [z,← sv2.1] at he hp;first | (rw [← hp];exact e13) | (rw [e12] at he;rw [← he,← qv16]))
    rw [r0,r1];exact BFun.imp (ziQ l a g D N IH v1 v2 v5 v7 v9 v10 v12 v13 v16 e1 e2 e5 e7 e9 e10 e12 e13 e16 s3 s4 h6 h8 h11 s14 s15) (zaE) (fun _ _ _ h=>h)
  | false =>
   obtain ⟨v9,e9⟩:∃v,((drawX (l.drop (v2:Int).toNat) (5:Int)).1)=v:=⟨_,rfl⟩
   obtain ⟨v10,e10⟩:∃v,(posA l (drawX (l.drop (v2:Int).toNat) (5:Int)).2)=v:=⟨_,rfl⟩
   have s11:0≤v2∧v2≤l.length:=by (have dh6:=ne_of_beq_false (e5.trans h6);have dh8:=of_decide_eq_false (e7.trans h8);have rv1:0≤v1∧v1<10:=(e1 ▸ zq (by omega) (by omega));have sv2:=zz ((zn _ _).trans (List.drop_suffix _ _)) e2;have rv9:0≤v9∧v9<5:=(e9 ▸ zq (by omega) (by omega));have sv10:=zz ((zn _ _).trans (List.drop_suffix _ _)) e10;exact sv2.2)
   have s12:l.length<9223372036854775807:=by exact hl
   obtain ⟨v13,e13⟩:∃v,(IntKind.i64.wrap ((3:Int)+v9))=v:=⟨_,rfl⟩
   obtain ⟨v14,e14⟩:∃v,(IntKind.i64.wrap (D - (1:Int)))=v:=⟨_,rfl⟩
   obtain ⟨v15,e15⟩:∃v,((madeX g (v14:Int).toNat (l.drop (v10:Int).toNat)).1)=v:=⟨_,rfl⟩
   obtain ⟨v16,e16⟩:∃v,(posA l (madeX g (v14:Int).toNat (l.drop (v10:Int).toNat)).2)=v:=⟨_,rfl⟩
   have s17:0≤v14∧(v14:Int).toNat<N:=by (have dh6:=ne_of_beq_false (e5.trans h6);have dh8:=of_decide_eq_false (e7.trans h8);have rv1:0≤v1∧v1<10:=(e1 ▸ zq (by omega) (by omega));have sv2:=zz ((zn _ _).trans (List.drop_suffix _ _)) e2;have rv9:0≤v9∧v9<5:=(e9 ▸ zq (by omega) (by omega));have sv10:=zz ((zn _ _).trans (List.drop_suffix _ _)) e10;have qv13:v13=3+v9:=(by rw [← e13,wri (by omega)]);have qv14:v14=D - 1:=(by rw [← e14,wri (by omega)]);have sv16:=zz ((qx _ _ _).trans (List.drop_suffix _ _)) e16;omega)
   have s18:0≤g∧g≤4:=by exact hg
   have s19:0≤v10∧v10≤l.length:=by (have dh6:=ne_of_beq_false (e5.trans h6);have dh8:=of_decide_eq_false (e7.trans h8);have rv1:0≤v1∧v1<10:=(e1 ▸ zq (by omega) (by omega));have sv2:=zz ((zn _ _).trans (List.drop_suffix _ _)) e2;have rv9:0≤v9∧v9<5:=(e9 ▸ zq (by omega) (by omega));have sv10:=zz ((zn _ _).trans (List.drop_suffix _ _)) e10;have qv13:v13=3+v9:=(by rw [← e13,wri (by omega)]);have qv14:v14=D - 1:=(by rw [← e14,wri (by omega)]);have sv16:=zz ((qx _ _ _).trans (List.drop_suffix _ _)) e16;exact sv10.2)
   have s20:l.length<9223372036854775807:=by exact hl
   obtain ⟨v21,e21⟩:∃v,(IntKind.i64.wrap (D - (1:Int)))=v:=⟨_,rfl⟩
   obtain ⟨v22,e22⟩:∃v,((madeX g (v21:Int).toNat (l.drop (v16:Int).toNat)).1)=v:=⟨_,rfl⟩
   obtain ⟨v23,e23⟩:∃v,(posA l (madeX g (v21:Int).toNat (l.drop (v16:Int).toNat)).2)=v:=⟨_,rfl⟩
   have s24:0≤v21∧(v21:Int).toNat<N:=by (have dh6:=ne_of_beq_false (e5.trans h6);have dh8:=of_decide_eq_false (e7.trans h8);have rv1:0≤v1∧v1<10:=(e1 ▸ zq (by omega) (by omega));have sv2:=zz ((zn _ _).trans (List.drop_suffix _ _)) e2;have rv9:0≤v9∧v9<5:=(e9 ▸ zq (by omega) (by omega));have sv10:=zz ((zn _ _).trans (List.drop_suffix _ _)) e10;have qv13:v13=3+v9:=(by rw [← e13,wri (by omega)]);have qv14:v14=D - 1:=(by rw [← e14,wri (by omega)]);have sv16:=zz ((qx _ _ _).trans (List.drop_suffix _ _)) e16;have qv21:v21=D - 1:=(by rw [← e21,wri (by omega)]);have sv23:=zz ((qx _ _ _).trans (List.drop_suffix _ _)) e23;omega)
   have s25:0≤g∧g≤4:=by exact hg
   have s26:0≤v16∧v16≤l.length:=by (have dh6:=ne_of_beq_false (e5.trans h6);have dh8:=of_decide_eq_false (e7.trans h8);have rv1:0≤v1∧v1<10:=(e1 ▸ zq (by omega) (by omega));have sv2:=zz ((zn _ _).trans (List.drop_suffix _ _)) e2;have rv9:0≤v9∧v9<5:=(e9 ▸ zq (by omega) (by omega));have sv10:=zz ((zn _ _).trans (List.drop_suffix _ _)) e10;have qv13:v13=3+v9:=(by rw [← e13,wri (by omega)]);have qv14:v14=D - 1:=(by rw [← e14,wri (by omega)]);have sv16:=zz ((qx _ _ _).trans (List.drop_suffix _ _)) e16;have qv21:v21=D - 1:=(by rw [← e21,wri (by omega)]);have sv23:=zz ((qx _ _ _).trans (List.drop_suffix _ _)) e23;exact sv16.2)
   have s27:l.length<9223372036854775807:=by exact hl
   obtain ⟨v28,e28⟩:∃v,(([v15,v22]:List Xp))=v:=⟨_,rfl⟩
   have r0:e=(Xp.mk v13 (0:Int) v28):=by
    (have dh6:=ne_of_beq_false (e5.trans h6);have dh8:=of_decide_eq_false (e7.trans h8);have rv1:0≤v1∧v1<10:=(e1 ▸ zq (by omega) (by omega));have sv2:=zz ((zn _ _).trans (List.drop_suffix _ _)) e2;have rv9:0≤v9∧v9<5:=(e9 ▸ zq (by omega) (by omega));have sv10:=zz ((zn _ _).trans (List.drop_suffix _ _)) e10;have qv13:v13=3+v9:=(by rw [← e13,wri (by omega)]);have qv14:v14=D - 1:=(by rw [← e14,wri (by omega)]);have sv16:=zz ((qx _ _ _).trans (List.drop_suffix _ _)) e16;have qv21:v21=D - 1:=(by rw [← e21,wri (by omega)]);have sv23:=zz ((qx _ _ _).trans (List.drop_suffix _ _)) e23;have y:v21=v14:=(by omega);subst y;have z:=zhU (g:=g) (D:=D) (L:=l.drop a.toNat) (by omega) (by rw [e1];omega);rw [z,← sv2.1,← sv10.1,← qv21,← sv16.1] at he hp;first | (rw [← hp];exact e23) | (rw [e9,e15,e22,← qv13,e28] at he;exact he.symm))
   have r1:p=v23:=by
    (have dh6:=ne_of_beq_false (e5.trans h6);have dh8:=of_decide_eq_false (e7.trans h8);have rv1:0≤v1∧v1<10:=(e1 ▸ zq (by omega) (by omega));have sv2:=zz ((zn _ _).trans (List.drop_suffix _ _)) e2;have rv9:0≤v9∧v9<5:=(e9 ▸ zq (by omega) (by omega));have sv10:=zz ((zn _ _).trans (List.drop_suffix _ _)) e10;have qv13:v13=3+v9:=(by rw [← e13,wri (by omega)]);have qv14:v14=D - 1:=(by rw [← e14,wri (by omega)]);have sv16:=zz ((qx _ _ _).trans (List.drop_suffix _ _)) e16;have qv21:v21=D - 1:=(by rw [← e21,wri (by omega)]);have sv23:=zz ((qx _ _ _).trans (List.drop_suffix _ _)) e23;have y:v21=v14:=(by omega);subst y;have z:=zhU (g:=g) (D:=D) (L:=l.drop a.toNat) (by omega) (by rw [e1];omega);rw [z,← sv2.1,← sv10.1,← qv21,← sv16.1] at he hp;first | (rw [← hp];exact e23) | (rw [e9,e15,e22,← qv13,e28] at he;exact he.symm))
   rw [r0,r1];exact ziR l a g D N IH v1 v2 v5 v7 v9 v10 v13 v14 v15 v16 v21 v22 v23 v28 e1 e2 e5 e7 e9 e10 e13 e14 e15 e16 e21 e22 e23 e28 s3 s4 h6 h8 s11 s12 s17 s18 s19 s20 s24 s25 s26 s27
theorem zcZ {w0:World}:∀N:Nat,N≤1000→qD w0 N
 | 0,_=>fun g D l a e p he hp hD=>absurd hD.2 (by omega)
 | N+1,h=>fun g D l a e p he hp hD hg ha hl=>zjU (zcZ N (by omega)) g D l a e p he hp hD hg ha hl (by omega)
theorem zk7 {w0:World} (g D:Int) (l:List Int) (a:Int) (e:Xp) (p:Int) (he:(madeX g D.toNat (l.drop a.toNat)).1=e) (hp:posA l (madeX g D.toNat (l.drop a.toNat)).2=p) (hD:0≤D∧D≤10) (hg:0≤g∧g≤4) (ha:0≤a∧a≤l.length) (hl:l.length<9223372036854775807):BFun false (KN w0) Tryd.prog 55 [.o (.c (.p 0 0)),.o (.c (.d (pI g))),.o (.c (.d (pI D)))] [(79,[.d (pLs cI l),.d (pI a)])] (.o (.g [.d (pI e.op),.d (pI e.n),.d (pLs cE e.l)])) [(79,[.d (pLs cI l),.d (pI p)])]:=zcZ 1000 (by omega) g D l a e p he hp (by omega) hg ha hl
def madE (l:List Int):Xp:=(madeX 3 3 l).1
theorem ziz {w0:World} (l:(List Int)) (g:Int) (v1:Int) (v2:Xp) (v3:Int) (e1:((if (4:Int)<g then (4:Int) else g))=v1) (e2:((madeX v1 ((3:Int):Int).toNat (l.drop ((0:Int):Int).toNat)).1)=v2) (e3:(posA l (madeX v1 ((3:Int):Int).toNat (l.drop ((0:Int):Int).toNat)).2)=v3) (s4:0≤(3:Int)∧(3:Int)≤10) (s5:0≤v1∧v1≤4) (s6:0≤(0:Int)∧(0:Int)≤l.length) (s7:l.length<9223372036854775807):Fun (KN w0) Tryd.prog 19 [.o (.c (pLs cI l)),.o (.c (pI g))] (.o (.g [pI v2.op,pI v2.n,pLs cE v2.l])):=
 zj (zl (F:=FL [pLs cI l,pI g,pI v1,pI v2.op,pI v2.n,pLs cE v2.l,pI v3] []) (C:=[(1000005,.op (.min [3,3] 3) [LF (.h 1),LF (.k (.int .i64 4))] [] (LF (.h 2))),
  (1000006,.call ⟨55,[.o (.c (.p 3 0)),.o (.c (.h 2)),.o (.c (.k (.int .i64 3)))],[.bx 3 79 [.h 0,.k (.int .i64 0)]],.o (.g [.h 3,.h 4,.h 5]),[.bx 3 79 [.h 0,.h 6]]⟩)]) (k:=⟨19,[.o (.c (.h 0)),.o (.c (.h 1))],[],.o (.g [.h 3,.h 4,.h 5]),[]⟩) 0 (zi ⟨(ze zf),zb rfl,zb rfl,zb rfl,zb rfl,(ze (zh rfl)),zb rfl,trivial⟩) ⟨e_op2 (za rfl) zc (za rfl) (fun W=>by rw [← e1];exact zK W),
  b_con (pan:=false) (zk7 v1 (3:Int) l (0:Int) v2 v3 e2 e3 s4 s5 s6 s7) (by kernel_rfl) rfl rfl rfl rfl,
  trivial⟩ mixed (by kernel_rfl)) rfl rfl rfl rfl
theorem zE {w0:World} (l:List Int) (g:Int) (e:Xp) (he:madE l=e) (hg:g=3) (hl:l.length<9223372036854775807):Fun (KN w0) Tryd.prog 19 [.o (.c (pLs cI l)),.o (.c (pI g))] (.o (.g [pI e.op,pI e.n,pLs cE e.l])):=by
 obtain ⟨v1,e1⟩:∃v,((if (4:Int)<g then (4:Int) else g))=v:=⟨_,rfl⟩
 obtain ⟨v2,e2⟩:∃v,((madeX v1 ((3:Int):Int).toNat (l.drop ((0:Int):Int).toNat)).1)=v:=⟨_,rfl⟩
 obtain ⟨v3,e3⟩:∃v,(posA l (madeX v1 ((3:Int):Int).toNat (l.drop ((0:Int):Int).toNat)).2)=v:=⟨_,rfl⟩
 have s4:0≤(3:Int)∧(3:Int)≤10:=by omega
 have s5:0≤v1∧v1≤4:=by (rw [hg,if_neg (by decide)] at e1;omega)
 have s6:0≤(0:Int)∧(0:Int)≤l.length:=by omega
 have s7:l.length<9223372036854775807:=by exact hl
 refine Fun.imp (ziz l g v1 v2 v3 e1 e2 e3 s4 s5 s6 s7) (fun _ _ _ h=>h) (fun v W D h=>?_)
 have r0:e=v2:=by
  (rw [hg,if_neg (by decide)] at e1;subst e1;rw [← he,← e2];rfl)
 rw [r0];exact h
end Go.Proofs.YtdkofaajcpcjkaaDoor
