/-
  Merged: ExLa.
-/
import Derived.Test.YtdkofaajcpcjkaaDoorMaR
import Derived.Test.YtdkofaajcpcjkaaDoorMaS
import Derived.Test.YtdkofaajcpcjkaaDoorMaK
import Derived.Test.YtdkofaajcpcjkaaDoorMaE
set_option linter.unusedSimpArgs false
set_option linter.unusedVariables false
set_option maxRecDepth 100000
namespace Go.Proofs.YtdkofaajcpcjkaaDoor
open Go.RowKit
theorem zgv {w0:World} (c:(List Int)) (c0:Int) (c1:Int) (c2:Int) (c3:Int) (c4:Int) (c5:Int) (d:(List Int)) (d0:Int) (d1:Int) (d2:Int) (d3:Int) (d4:Int) (d5:Int) (x:(List Int)) (z:Int) (hL:LibT w0) (v1:Int) (v2:Int) (n3:Nat) (v5:(List Int)) (v7:(List Int)) (v9:(List Int)) (n11:Nat) (v13:(List Int)) (v15:Xp) (v18:Xp) (v21:Int) (v22:Int) (v24:Int) (v25:Int) (v27:Int) (v28:Int) (v29:Int) (v30:Xp) (v31:Int) (v32:Int) (v34:Int) (v37:Bool) (v39:Bool) (v41:Bool) (e1:((x.length:Int))=v1) (e2:((if (3:Int)<v1 then (3:Int) else v1))=v2) (e5:(x.take n3)=v5) (e7:(([]:List Int)++v5)=v7) (e9:(v7++([(1:Int),(2:Int),(3:Int)]:List Int))=v9) (e13:(v9.take n11)=v13) (e15:(madE c)=v15) (e18:(madE d)=v18) (e21:((evalE v15 v13).1)=v21) (e22:((evalE v15 v13).2)=v22) (e24:((evalE v18 v13).1)=v24) (e25:((evalE v18 v13).2)=v25) (e27:(IntKind.i64.wrap z)=v27) (e28:((v27:Int).tmod (5:Int))=v28) (e29:(IntKind.i64.wrap ((3:Int)+v28))=v29) (e30:((Xp.mk v29 0 [v15,v18]))=v30) (e31:((evalE v30 v13).1)=v31) (e32:((evalE v30 v13).2)=v32) (e34:(sizeX v30 (30:Int))=v34) (e37:(decide (v34 > (30:Int)))=v37) (e39:((v32 == (2:Int)))=v39) (e41:((v31 == (0:Int)))=v41) (s4:v2=(n3:Int)) (s6:n3≤x.length) (s8:(([]:List Int).length+v5.length)*1≤1099511627776) (s10:(v7.length+([(1:Int),(2:Int),(3:Int)]:List Int).length)*1≤1099511627776) (s12:(3:Int)=(n11:Int)) (s14:n11≤v9.length) (s16:(3:Int)=3) (s17:c.length<9223372036854775807) (s19:(3:Int)=3) (s20:d.length<9223372036854775807) (s23:nodes v15≤1000000) (s26:nodes v18≤1000000) (s33:nodes v30≤1000000) (s35:nodes v30≤1000000) (s36:0≤(30:Int)∧(30:Int)≤1000) (h38:v37=true) (h40:v39=true):Fun (KN w0) Tryd.prog 5 [.o (.g [pLs cI c,pI c0,pI c1,pI c2,pI c3,pI c4,pI c5]),.o (.g [pLs cI d,pI d0,pI d1,pI d2,pI d3,pI d4,pI d5]),.o (.c (pLs cI x)),.o (.c (pV (.int .u8 z)))] (.o (.c (pB v41))):=
 zj (zA (F:=FL [pLs cI c,pI c0,pI c1,pI c2,pI c3,pI c4,pI c5,pLs cI d,pI d0,pI d1,pI d2,pI d3,pI d4,pI d5,pLs cI x,pV (.int .u8 z),pI v1,pI v2,pLs cI v5,pLs cI v9,pLs cI v13,pI v15.op,pI v15.n,pLs cE v15.l,pI v18.op,pI v18.n,pLs cE v18.l,pI v21,pI v22,pI v24,pI v25,pI v27,pI v28,pI v29,pI v30.op,pI v30.n,pLs cE v30.l,pI v31,pI v32,pI v34,pB v37,pB v39,pB v41] [pG cI ([]:List Int),pG cI v7,pG cI v9]) (C:=[(1000003,.call ⟨8,[],[],.o (.c (.k (.bool true))),[]⟩),
  (1000005,.glt 3 1 [] 0),
  (1000008,.op (.len [22] 3) [LF (.h 14)] [] (LF (.h 16))),
  (1000009,.op (.min [3,3] 3) [LF (.h 16),LF (.k (.int .i64 3))] [] (LF (.h 17))),
  (1000010,.op (.sc 22 false true false) [LF (.h 14),LF (.h 17)] [] (LF (.h 18))),
  (1000011,.app 3 1 5 0 1 (.o (.c (.h 18))) [] false),
  (1000013,.app 3 1 5 1 2 (.o (.c (.s 12 0 3 3))) [.bx 12 3 [.k (.int .i64 1),.k (.int .i64 2),.k (.int .i64 3)]] false),
  (1000014,.op (.sc 22 false true false) [LF (.h 19),LF (.k (.int .i64 3))] [] (LF (.h 20))),
  (1000018,.call ⟨19,[.o (.c (.h 0)),.o (.c (.k (.int .i64 3)))],[],.o (.g [.h 21,.h 22,.h 23]),[]⟩),
  (1000021,.call ⟨19,[.o (.c (.h 7)),.o (.c (.k (.int .i64 3)))],[],.o (.g [.h 24,.h 25,.h 26]),[]⟩),
  (1000028,.call ⟨13,[.o (.g [.h 21,.h 22,.h 23]),.o (.c (.h 20))],[],.t [.c (.h 27),.c (.h 28)],[]⟩),
  (1000036,.call ⟨13,[.o (.g [.h 24,.h 25,.h 26]),.o (.c (.h 20))],[],.t [.c (.h 29),.c (.h 30)],[]⟩),
  (1000043,.op (.cv 5 3) [LF (.h 15)] [] (LF (.h 31))),
  (1000044,.bin .rem 3 (LF (.h 31)) (LF (.k (.int .i64 5))) (LF (.h 32))),
  (1000045,.bin .add 3 (LF (.k (.int .i64 3))) (LF (.h 32)) (LF (.h 33))),
  (1000050,.call ⟨20,[.o (.c (.h 33)),.o (.g [.h 21,.h 22,.h 23]),.o (.g [.h 24,.h 25,.h 26])],[],.o (.g [.h 34,.h 35,.h 36]),[]⟩),
  (1000055,.call ⟨13,[.o (.g [.h 34,.h 35,.h 36]),.o (.c (.h 20))],[],.t [.c (.h 37),.c (.h 38)],[]⟩),
  (1000062,.call ⟨21,[.o (.g [.h 34,.h 35,.h 36]),.o (.c (.k (.int .i64 30)))],[],.o (.c (.h 39)),[]⟩),
  (1000063,.bin .gtr 3 (LF (.h 39)) (LF (.k (.int .i64 30))) (LF (.h 40))),
  (10040,.fb 40 true),
  (1000067,.bin .eql 33 (LF (.h 38)) (LF (.k (.int .i64 2))) (LF (.h 41))),
  (10041,.fb 41 true),
  (1000071,.bin .eql 3 (LF (.h 37)) (LF (.k (.int .i64 0))) (LF (.h 42)))]) (k:=⟨5,[.o (.g [.h 0,.h 1,.h 2,.h 3,.h 4,.h 5,.h 6]),.o (.g [.h 7,.h 8,.h 9,.h 10,.h 11,.h 12,.h 13]),.o (.c (.h 14)),.o (.c (.h 15))],[],.o (.c (.h 42)),[]⟩) ⟨[],[⟨1000002,[.gn 9],[],[]⟩,⟨2,.gl 5 3 1 2::[31].map (fun s=>.sl s (.o (.c (.gr 5)))),[31].map (fun s=>.sl s (.o (.c (.h 19)))),[5]⟩],0⟩ [] 0 (zi ⟨(ze zf),zb rfl,zb rfl,zb rfl,zb rfl,zb rfl,zb rfl,(ze zf),zb rfl,zb rfl,zb rfl,zb rfl,zb rfl,zb rfl,(ze zf),zb rfl,zb rfl,zb rfl,(ze zf),(ze zf),(ze zf),zb rfl,zb rfl,(ze (zh rfl)),zb rfl,zb rfl,(ze (zh rfl)),zb rfl,zb rfl,zb rfl,zb rfl,zb rfl,zb rfl,zb rfl,zb rfl,zb rfl,(ze (zh rfl)),zb rfl,zb rfl,zb rfl,zb rfl,zb rfl,zb rfl,trivial⟩ ⟨(zk zf),(zk zf),(zk zf),trivial⟩) ⟨zg (zH hL) rfl rfl rfl rfl,
  e_glt (c:=cI) (l:=([]:List Int)) rfl rfl (fun _ _ _ h=>h) rfl zf (by decide),
  zm (E:=3) (by kernel_rfl) (zd rfl) (za (by rw [← e1];rfl)),
  e_op2 (za rfl) zc (za rfl) (fun W=>by rw [← e2];exact zK W),
  zw (E:=3) (z:=1) (fun _=>rfl) (by kernel_rfl) (by kernel_rfl) (zd rfl) (za rfl) s4 s6 (zd (by rw [e5];rfl)),
  qi (c:=cI) zf (fun _=>rfl) rfl (by rw [e7];rfl) rfl s8,
  qj (c:=cI) (l2:=([(1:Int),(2:Int),(3:Int)]:List Int)) zf (fun _=>rfl) rfl (by rw [e9];rfl) rfl (fun _ _ _ h=>h) rfl rfl s10,
  zw (E:=3) (z:=1) (fun _=>rfl) (by kernel_rfl) (by kernel_rfl) (zd rfl) zc s12 s14 (zd (by rw [e13];rfl)),
  zg (zE c (3:Int) v15 e15 s16 s17) rfl rfl rfl rfl,
  zg (zE d (3:Int) v18 e18 s19 s20) rfl rfl rfl rfl,
  zg (zr v15 v13 v21 v22 e21 e22 s23) rfl rfl rfl rfl,
  zg (zr v18 v13 v24 v25 e24 e25 s26) rfl rfl rfl rfl,
  e_op1 (za rfl) (za rfl) (fun W=>by rw [← e27];exact r_cvi (by kernel_rfl) (by kernel_rfl) W),
  e_bin (za rfl) zc (za rfl) (r_ar ((zU (by decide)).trans (congrArg some e28))),
  e_bin zc (za rfl) (za rfl) (r_ar (congrArg some e29)),
  zg (x_opL v29 v15 v18 v30 e30) rfl rfl rfl rfl,
  zg (zr v30 v13 v31 v32 e31 e32 s33) rfl rfl rfl rfl,
  zg (zS v30 (30:Int) v34 e34 s35 s36) rfl rfl rfl rfl,
  e_bin (za rfl) zc (za rfl) (r_cmp (congrArg some e37)),
  e_fb (show pV (.bool v37)=_ by rw [h38]),
  e_bin (za rfl) zc (za rfl) (r_cmp (congrArg some e39)),
  e_fb (show pV (.bool v39)=_ by rw [h40]),
  e_bin (za rfl) zc (za rfl) (r_cmp (congrArg some e41)),
  trivial⟩ mixed ⟨zR,zD (c:=cI) (fun _=>rfl) (by decide) zf rfl rfl,trivial⟩ (fun _ _ _ _ _ hs=>by cases hs) (by kernel_rfl)) rfl rfl rfl rfl
theorem zgw {w0:World} (c:(List Int)) (c0:Int) (c1:Int) (c2:Int) (c3:Int) (c4:Int) (c5:Int) (d:(List Int)) (d0:Int) (d1:Int) (d2:Int) (d3:Int) (d4:Int) (d5:Int) (x:(List Int)) (z:Int) (hL:LibT w0) (v1:Int) (v2:Int) (n3:Nat) (v5:(List Int)) (v7:(List Int)) (v9:(List Int)) (n11:Nat) (v13:(List Int)) (v15:Xp) (v18:Xp) (v21:Int) (v22:Int) (v24:Int) (v25:Int) (v27:Int) (v28:Int) (v29:Int) (v30:Xp) (v31:Int) (v32:Int) (v34:Int) (v37:Bool) (v39:Bool) (v41:Bool) (v43:Bool) (v45:Bool) (v46:Bool) (v48:Bool) (v50:Bool) (v51:Bool) (v53:Bool) (v55:Int) (v56:Bool) (v58:Bool) (v60:Bool) (v61:Bool) (v63:Bool) (v65:Bool) (e1:((x.length:Int))=v1) (e2:((if (3:Int)<v1 then (3:Int) else v1))=v2) (e5:(x.take n3)=v5) (e7:(([]:List Int)++v5)=v7) (e9:(v7++([(1:Int),(2:Int),(3:Int)]:List Int))=v9) (e13:(v9.take n11)=v13) (e15:(madE c)=v15) (e18:(madE d)=v18) (e21:((evalE v15 v13).1)=v21) (e22:((evalE v15 v13).2)=v22) (e24:((evalE v18 v13).1)=v24) (e25:((evalE v18 v13).2)=v25) (e27:(IntKind.i64.wrap z)=v27) (e28:((v27:Int).tmod (5:Int))=v28) (e29:(IntKind.i64.wrap ((3:Int)+v28))=v29) (e30:((Xp.mk v29 0 [v15,v18]))=v30) (e31:((evalE v30 v13).1)=v31) (e32:((evalE v30 v13).2)=v32) (e34:(sizeX v30 (30:Int))=v34) (e37:(decide (v34 > (30:Int)))=v37) (e39:((v22 != (0:Int)))=v39) (e41:((v25 != (0:Int)))=v41) (e43:((v22 == (0:Int)))=v43) (e45:(valB v21)=v45) (e46:(!v45)=v46) (e48:((v25 == (0:Int)))=v48) (e50:(valB v24)=v50) (e51:(!v50)=v51) (e53:((v29 == (3:Int)))=v53) (e55:(IntKind.i64.wrap (v21+v24))=v55) (e56:((v22 != (0:Int)))=v56) (e58:((v25 != (0:Int)))=v58) (e60:(valB v55)=v60) (e61:(!v60)=v61) (e63:((v32 == (0:Int)))=v63) (e65:((v31 == v55))=v65) (s4:v2=(n3:Int)) (s6:n3≤x.length) (s8:(([]:List Int).length+v5.length)*1≤1099511627776) (s10:(v7.length+([(1:Int),(2:Int),(3:Int)]:List Int).length)*1≤1099511627776) (s12:(3:Int)=(n11:Int)) (s14:n11≤v9.length) (s16:(3:Int)=3) (s17:c.length<9223372036854775807) (s19:(3:Int)=3) (s20:d.length<9223372036854775807) (s23:nodes v15≤1000000) (s26:nodes v18≤1000000) (s33:nodes v30≤1000000) (s35:nodes v30≤1000000) (s36:0≤(30:Int)∧(30:Int)≤1000) (h38:v37=false) (h40:v39=false) (h42:v41=false) (h44:v43=true) (h47:v46=false) (h49:v48=true) (h52:v51=false) (h54:v53=true) (h57:v56=false) (h59:v58=false) (h62:v61=false) (h64:v63=true):Fun (KN w0) Tryd.prog 5 [.o (.g [pLs cI c,pI c0,pI c1,pI c2,pI c3,pI c4,pI c5]),.o (.g [pLs cI d,pI d0,pI d1,pI d2,pI d3,pI d4,pI d5]),.o (.c (pLs cI x)),.o (.c (pV (.int .u8 z)))] (.o (.c (pB v65))):=
 zj (zA (F:=FL [pLs cI c,pI c0,pI c1,pI c2,pI c3,pI c4,pI c5,pLs cI d,pI d0,pI d1,pI d2,pI d3,pI d4,pI d5,pLs cI x,pV (.int .u8 z),pI v1,pI v2,pLs cI v5,pLs cI v9,pLs cI v13,pI v15.op,pI v15.n,pLs cE v15.l,pI v18.op,pI v18.n,pLs cE v18.l,pI v21,pI v22,pI v24,pI v25,pI v27,pI v28,pI v29,pI v30.op,pI v30.n,pLs cE v30.l,pI v31,pI v32,pI v34,pB v37,pB v39,pB v41,pB v43,pB v45,pB v46,pB v48,pB v50,pB v51,pB v53,pI v55,pB v56,pB v58,pB v60,pB v61,pB v63,pB v65] [pG cI ([]:List Int),pG cI v7,pG cI v9]) (C:=((1000003,.call ⟨8,[],[],.o (.c (.k (.bool true))),[]⟩) ::
  (1000005,.glt 3 1 [] 0) ::
  (1000008,.op (.len [22] 3) [LF (.h 14)] [] (LF (.h 16))) ::
  (1000009,.op (.min [3,3] 3) [LF (.h 16),LF (.k (.int .i64 3))] [] (LF (.h 17))) ::
  (1000010,.op (.sc 22 false true false) [LF (.h 14),LF (.h 17)] [] (LF (.h 18))) ::
  (1000011,.app 3 1 5 0 1 (.o (.c (.h 18))) [] false) ::
  (1000013,.app 3 1 5 1 2 (.o (.c (.s 12 0 3 3))) [.bx 12 3 [.k (.int .i64 1),.k (.int .i64 2),.k (.int .i64 3)]] false) ::
  (1000014,.op (.sc 22 false true false) [LF (.h 19),LF (.k (.int .i64 3))] [] (LF (.h 20))) ::
  (1000018,.call ⟨19,[.o (.c (.h 0)),.o (.c (.k (.int .i64 3)))],[],.o (.g [.h 21,.h 22,.h 23]),[]⟩) ::
  (1000021,.call ⟨19,[.o (.c (.h 7)),.o (.c (.k (.int .i64 3)))],[],.o (.g [.h 24,.h 25,.h 26]),[]⟩) ::
  (1000028,.call ⟨13,[.o (.g [.h 21,.h 22,.h 23]),.o (.c (.h 20))],[],.t [.c (.h 27),.c (.h 28)],[]⟩) ::
  (1000036,.call ⟨13,[.o (.g [.h 24,.h 25,.h 26]),.o (.c (.h 20))],[],.t [.c (.h 29),.c (.h 30)],[]⟩) ::
  (1000043,.op (.cv 5 3) [LF (.h 15)] [] (LF (.h 31))) ::
  (1000044,.bin .rem 3 (LF (.h 31)) (LF (.k (.int .i64 5))) (LF (.h 32))) ::
  (1000045,.bin .add 3 (LF (.k (.int .i64 3))) (LF (.h 32)) (LF (.h 33))) ::
  (1000050,.call ⟨20,[.o (.c (.h 33)),.o (.g [.h 21,.h 22,.h 23]),.o (.g [.h 24,.h 25,.h 26])],[],.o (.g [.h 34,.h 35,.h 36]),[]⟩) ::
  (1000055,.call ⟨13,[.o (.g [.h 34,.h 35,.h 36]),.o (.c (.h 20))],[],.t [.c (.h 37),.c (.h 38)],[]⟩) ::
  (1000062,.call ⟨21,[.o (.g [.h 34,.h 35,.h 36]),.o (.c (.k (.int .i64 30)))],[],.o (.c (.h 39)),[]⟩) ::
  (1000063,.bin .gtr 3 (LF (.h 39)) (LF (.k (.int .i64 30))) (LF (.h 40))) ::
  (10040,.fb 40 false) ::
  (1000065,.bin .neq 33 (LF (.h 28)) (LF (.k (.int .i64 0))) (LF (.h 41))) ::
  (10041,.fb 41 false) ::
  (1000072,.bin .neq 33 (LF (.h 30)) (LF (.k (.int .i64 0))) (LF (.h 42))) ::
  (10042,.fb 42 false) ::
  (1000080,.bin .eql 33 (LF (.h 28)) (LF (.k (.int .i64 0))) (LF (.h 43))) ::
  (10043,.fb 43 true) ::
  (1000083,.call ⟨22,[.o (.c (.h 27))],[],.o (.c (.h 44)),[]⟩) ::
  (1000084,.un .not (LF (.h 44)) (LF (.h 45))) ::
  (10045,.fb 45 false) ::
  (1000089,.bin .eql 33 (LF (.h 30)) (LF (.k (.int .i64 0))) (LF (.h 46))) ::
  (10046,.fb 46 true) ::
  (1000092,.call ⟨22,[.o (.c (.h 29))],[],.o (.c (.h 47)),[]⟩) ::
  (1000093,.un .not (LF (.h 47)) (LF (.h 48))) ::
  (10048,.fb 48 false) ::
  (1000098,.bin .eql 3 (LF (.h 33)) (LF (.k (.int .i64 3))) (LF (.h 49))) ::
  (10049,.fb 49 true) ::
  (1000102,.bin .add 3 (LF (.h 27)) (LF (.h 29)) (LF (.h 50))) ::
  (1000105,.bin .neq 33 (LF (.h 28)) (LF (.k (.int .i64 0))) (LF (.h 51))) ::
  (10051,.fb 51 false) ::
  (1000108,.bin .neq 33 (LF (.h 30)) (LF (.k (.int .i64 0))) (LF (.h 52))) ::
  (10052,.fb 52 false) ::
  (1000112,.call ⟨22,[.o (.c (.h 50))],[],.o (.c (.h 53)),[]⟩) ::
  (1000113,.un .not (LF (.h 53)) (LF (.h 54))) ::
  (10054,.fb 54 false) ::
  (1000118,.bin .eql 33 (LF (.h 38)) (LF (.k (.int .i64 0))) (LF (.h 55))) ::
  (10055,.fb 55 true) ::
  (1000123,.bin .eql 3 (LF (.h 37)) (LF (.h 50)) (LF (.h 56)))::[]:List (Nat×Ent))) (k:=⟨5,[.o (.g [.h 0,.h 1,.h 2,.h 3,.h 4,.h 5,.h 6]),.o (.g [.h 7,.h 8,.h 9,.h 10,.h 11,.h 12,.h 13]),.o (.c (.h 14)),.o (.c (.h 15))],[],.o (.c (.h 56)),[]⟩) ⟨[],[⟨1000002,[.gn 9],[],[]⟩,⟨2,.gl 5 3 1 2::[31].map (fun s=>.sl s (.o (.c (.gr 5)))),[31].map (fun s=>.sl s (.o (.c (.h 19)))),[5]⟩],0⟩ [] 0 (zi ⟨(ze zf),zb rfl,zb rfl,zb rfl,zb rfl,zb rfl,zb rfl,(ze zf),zb rfl,zb rfl,zb rfl,zb rfl,zb rfl,zb rfl,(ze zf),zb rfl,zb rfl,zb rfl,(ze zf),(ze zf),(ze zf),zb rfl,zb rfl,(ze (zh rfl)),zb rfl,zb rfl,(ze (zh rfl)),zb rfl,zb rfl,zb rfl,zb rfl,zb rfl,zb rfl,zb rfl,zb rfl,zb rfl,(ze (zh rfl)),zb rfl,zb rfl,zb rfl,zb rfl,zb rfl,zb rfl,zb rfl,zb rfl,zb rfl,zb rfl,zb rfl,zb rfl,zb rfl,zb rfl,zb rfl,zb rfl,zb rfl,zb rfl,zb rfl,zb rfl,trivial⟩ ⟨(zk zf),(zk zf),(zk zf),trivial⟩) ⟨zg (zH hL) rfl rfl rfl rfl,
  e_glt (c:=cI) (l:=([]:List Int)) rfl rfl (fun _ _ _ h=>h) rfl zf (by decide),
  zm (E:=3) (by kernel_rfl) (zd rfl) (za (by rw [← e1];rfl)),
  e_op2 (za rfl) zc (za rfl) (fun W=>by rw [← e2];exact zK W),
  zw (E:=3) (z:=1) (fun _=>rfl) (by kernel_rfl) (by kernel_rfl) (zd rfl) (za rfl) s4 s6 (zd (by rw [e5];rfl)),
  qi (c:=cI) zf (fun _=>rfl) rfl (by rw [e7];rfl) rfl s8,
  qj (c:=cI) (l2:=([(1:Int),(2:Int),(3:Int)]:List Int)) zf (fun _=>rfl) rfl (by rw [e9];rfl) rfl (fun _ _ _ h=>h) rfl rfl s10,
  zw (E:=3) (z:=1) (fun _=>rfl) (by kernel_rfl) (by kernel_rfl) (zd rfl) zc s12 s14 (zd (by rw [e13];rfl)),
  zg (zE c (3:Int) v15 e15 s16 s17) rfl rfl rfl rfl,
  zg (zE d (3:Int) v18 e18 s19 s20) rfl rfl rfl rfl,
  zg (zr v15 v13 v21 v22 e21 e22 s23) rfl rfl rfl rfl,
  zg (zr v18 v13 v24 v25 e24 e25 s26) rfl rfl rfl rfl,
  e_op1 (za rfl) (za rfl) (fun W=>by rw [← e27];exact r_cvi (by kernel_rfl) (by kernel_rfl) W),
  e_bin (za rfl) zc (za rfl) (r_ar ((zU (by decide)).trans (congrArg some e28))),
  e_bin zc (za rfl) (za rfl) (r_ar (congrArg some e29)),
  zg (x_opL v29 v15 v18 v30 e30) rfl rfl rfl rfl,
  zg (zr v30 v13 v31 v32 e31 e32 s33) rfl rfl rfl rfl,
  zg (zS v30 (30:Int) v34 e34 s35 s36) rfl rfl rfl rfl,
  e_bin (za rfl) zc (za rfl) (r_cmp (congrArg some e37)),
  e_fb (show pV (.bool v37)=_ by rw [h38]),
  e_bin (za rfl) zc (za rfl) (r_cmp (congrArg some e39)),
  e_fb (show pV (.bool v39)=_ by rw [h40]),
  e_bin (za rfl) zc (za rfl) (r_cmp (congrArg some e41)),
  e_fb (show pV (.bool v41)=_ by rw [h42]),
  e_bin (za rfl) zc (za rfl) (r_cmp (congrArg some e43)),
  e_fb (show pV (.bool v43)=_ by rw [h44]),
  zg (zy v21 v45 e45) rfl rfl rfl rfl,
  e_un (za rfl) (za rfl) (fun W=>by rw [← e46];exact r_not W),
  e_fb (show pV (.bool v46)=_ by rw [h47]),
  e_bin (za rfl) zc (za rfl) (r_cmp (congrArg some e48)),
  e_fb (show pV (.bool v48)=_ by rw [h49]),
  zg (zy v24 v50 e50) rfl rfl rfl rfl,
  e_un (za rfl) (za rfl) (fun W=>by rw [← e51];exact r_not W),
  e_fb (show pV (.bool v51)=_ by rw [h52]),
  e_bin (za rfl) zc (za rfl) (r_cmp (congrArg some e53)),
  e_fb (show pV (.bool v53)=_ by rw [h54]),
  e_bin (za rfl) (za rfl) (za rfl) (r_ar (congrArg some e55)),
  e_bin (za rfl) zc (za rfl) (r_cmp (congrArg some e56)),
  e_fb (show pV (.bool v56)=_ by rw [h57]),
  e_bin (za rfl) zc (za rfl) (r_cmp (congrArg some e58)),
  e_fb (show pV (.bool v58)=_ by rw [h59]),
  zg (zy v55 v60 e60) rfl rfl rfl rfl,
  e_un (za rfl) (za rfl) (fun W=>by rw [← e61];exact r_not W),
  e_fb (show pV (.bool v61)=_ by rw [h62]),
  e_bin (za rfl) zc (za rfl) (r_cmp (congrArg some e63)),
  e_fb (show pV (.bool v63)=_ by rw [h64]),
  e_bin (za rfl) (za rfl) (za rfl) (r_cmp (congrArg some e65)),
  trivial⟩ mixed ⟨zR,zD (c:=cI) (fun _=>rfl) (by decide) zf rfl rfl,trivial⟩ (fun _ _ _ _ _ hs=>by cases hs) (by kernel_rfl)) rfl rfl rfl rfl
theorem zgx {w0:World} (c:(List Int)) (c0:Int) (c1:Int) (c2:Int) (c3:Int) (c4:Int) (c5:Int) (d:(List Int)) (d0:Int) (d1:Int) (d2:Int) (d3:Int) (d4:Int) (d5:Int) (x:(List Int)) (z:Int) (hL:LibT w0) (v1:Int) (v2:Int) (n3:Nat) (v5:(List Int)) (v7:(List Int)) (v9:(List Int)) (n11:Nat) (v13:(List Int)) (v15:Xp) (v18:Xp) (v21:Int) (v22:Int) (v24:Int) (v25:Int) (v27:Int) (v28:Int) (v29:Int) (v30:Xp) (v31:Int) (v32:Int) (v34:Int) (v37:Bool) (v39:Bool) (v41:Bool) (v43:Bool) (v45:Bool) (v46:Bool) (v48:Bool) (v50:Bool) (v51:Bool) (v53:Bool) (v55:Int) (v56:Bool) (v58:Bool) (v60:Bool) (v61:Bool) (v63:Bool) (v65:Bool) (e1:((x.length:Int))=v1) (e2:((if (3:Int)<v1 then (3:Int) else v1))=v2) (e5:(x.take n3)=v5) (e7:(([]:List Int)++v5)=v7) (e9:(v7++([(1:Int),(2:Int),(3:Int)]:List Int))=v9) (e13:(v9.take n11)=v13) (e15:(madE c)=v15) (e18:(madE d)=v18) (e21:((evalE v15 v13).1)=v21) (e22:((evalE v15 v13).2)=v22) (e24:((evalE v18 v13).1)=v24) (e25:((evalE v18 v13).2)=v25) (e27:(IntKind.i64.wrap z)=v27) (e28:((v27:Int).tmod (5:Int))=v28) (e29:(IntKind.i64.wrap ((3:Int)+v28))=v29) (e30:((Xp.mk v29 0 [v15,v18]))=v30) (e31:((evalE v30 v13).1)=v31) (e32:((evalE v30 v13).2)=v32) (e34:(sizeX v30 (30:Int))=v34) (e37:(decide (v34 > (30:Int)))=v37) (e39:((v22 != (0:Int)))=v39) (e41:((v25 != (0:Int)))=v41) (e43:((v22 == (0:Int)))=v43) (e45:(valB v21)=v45) (e46:(!v45)=v46) (e48:((v25 == (0:Int)))=v48) (e50:(valB v24)=v50) (e51:(!v50)=v51) (e53:((v29 == (3:Int)))=v53) (e55:(IntKind.i64.wrap (v21+v24))=v55) (e56:((v22 != (0:Int)))=v56) (e58:((v25 != (0:Int)))=v58) (e60:(valB v55)=v60) (e61:(!v60)=v61) (e63:((v32 == (3:Int)))=v63) (e65:((v31 == (0:Int)))=v65) (s4:v2=(n3:Int)) (s6:n3≤x.length) (s8:(([]:List Int).length+v5.length)*1≤1099511627776) (s10:(v7.length+([(1:Int),(2:Int),(3:Int)]:List Int).length)*1≤1099511627776) (s12:(3:Int)=(n11:Int)) (s14:n11≤v9.length) (s16:(3:Int)=3) (s17:c.length<9223372036854775807) (s19:(3:Int)=3) (s20:d.length<9223372036854775807) (s23:nodes v15≤1000000) (s26:nodes v18≤1000000) (s33:nodes v30≤1000000) (s35:nodes v30≤1000000) (s36:0≤(30:Int)∧(30:Int)≤1000) (h38:v37=false) (h40:v39=false) (h42:v41=false) (h44:v43=true) (h47:v46=false) (h49:v48=true) (h52:v51=false) (h54:v53=true) (h57:v56=false) (h59:v58=false) (h62:v61=true) (h64:v63=true):Fun (KN w0) Tryd.prog 5 [.o (.g [pLs cI c,pI c0,pI c1,pI c2,pI c3,pI c4,pI c5]),.o (.g [pLs cI d,pI d0,pI d1,pI d2,pI d3,pI d4,pI d5]),.o (.c (pLs cI x)),.o (.c (pV (.int .u8 z)))] (.o (.c (pB v65))):=
 zj (zA (F:=FL [pLs cI c,pI c0,pI c1,pI c2,pI c3,pI c4,pI c5,pLs cI d,pI d0,pI d1,pI d2,pI d3,pI d4,pI d5,pLs cI x,pV (.int .u8 z),pI v1,pI v2,pLs cI v5,pLs cI v9,pLs cI v13,pI v15.op,pI v15.n,pLs cE v15.l,pI v18.op,pI v18.n,pLs cE v18.l,pI v21,pI v22,pI v24,pI v25,pI v27,pI v28,pI v29,pI v30.op,pI v30.n,pLs cE v30.l,pI v31,pI v32,pI v34,pB v37,pB v39,pB v41,pB v43,pB v45,pB v46,pB v48,pB v50,pB v51,pB v53,pI v55,pB v56,pB v58,pB v60,pB v61,pB v63,pB v65] [pG cI ([]:List Int),pG cI v7,pG cI v9]) (C:=((1000003,.call ⟨8,[],[],.o (.c (.k (.bool true))),[]⟩) ::
  (1000005,.glt 3 1 [] 0) ::
  (1000008,.op (.len [22] 3) [LF (.h 14)] [] (LF (.h 16))) ::
  (1000009,.op (.min [3,3] 3) [LF (.h 16),LF (.k (.int .i64 3))] [] (LF (.h 17))) ::
  (1000010,.op (.sc 22 false true false) [LF (.h 14),LF (.h 17)] [] (LF (.h 18))) ::
  (1000011,.app 3 1 5 0 1 (.o (.c (.h 18))) [] false) ::
  (1000013,.app 3 1 5 1 2 (.o (.c (.s 12 0 3 3))) [.bx 12 3 [.k (.int .i64 1),.k (.int .i64 2),.k (.int .i64 3)]] false) ::
  (1000014,.op (.sc 22 false true false) [LF (.h 19),LF (.k (.int .i64 3))] [] (LF (.h 20))) ::
  (1000018,.call ⟨19,[.o (.c (.h 0)),.o (.c (.k (.int .i64 3)))],[],.o (.g [.h 21,.h 22,.h 23]),[]⟩) ::
  (1000021,.call ⟨19,[.o (.c (.h 7)),.o (.c (.k (.int .i64 3)))],[],.o (.g [.h 24,.h 25,.h 26]),[]⟩) ::
  (1000028,.call ⟨13,[.o (.g [.h 21,.h 22,.h 23]),.o (.c (.h 20))],[],.t [.c (.h 27),.c (.h 28)],[]⟩) ::
  (1000036,.call ⟨13,[.o (.g [.h 24,.h 25,.h 26]),.o (.c (.h 20))],[],.t [.c (.h 29),.c (.h 30)],[]⟩) ::
  (1000043,.op (.cv 5 3) [LF (.h 15)] [] (LF (.h 31))) ::
  (1000044,.bin .rem 3 (LF (.h 31)) (LF (.k (.int .i64 5))) (LF (.h 32))) ::
  (1000045,.bin .add 3 (LF (.k (.int .i64 3))) (LF (.h 32)) (LF (.h 33))) ::
  (1000050,.call ⟨20,[.o (.c (.h 33)),.o (.g [.h 21,.h 22,.h 23]),.o (.g [.h 24,.h 25,.h 26])],[],.o (.g [.h 34,.h 35,.h 36]),[]⟩) ::
  (1000055,.call ⟨13,[.o (.g [.h 34,.h 35,.h 36]),.o (.c (.h 20))],[],.t [.c (.h 37),.c (.h 38)],[]⟩) ::
  (1000062,.call ⟨21,[.o (.g [.h 34,.h 35,.h 36]),.o (.c (.k (.int .i64 30)))],[],.o (.c (.h 39)),[]⟩) ::
  (1000063,.bin .gtr 3 (LF (.h 39)) (LF (.k (.int .i64 30))) (LF (.h 40))) ::
  (10040,.fb 40 false) ::
  (1000065,.bin .neq 33 (LF (.h 28)) (LF (.k (.int .i64 0))) (LF (.h 41))) ::
  (10041,.fb 41 false) ::
  (1000072,.bin .neq 33 (LF (.h 30)) (LF (.k (.int .i64 0))) (LF (.h 42))) ::
  (10042,.fb 42 false) ::
  (1000080,.bin .eql 33 (LF (.h 28)) (LF (.k (.int .i64 0))) (LF (.h 43))) ::
  (10043,.fb 43 true) ::
  (1000083,.call ⟨22,[.o (.c (.h 27))],[],.o (.c (.h 44)),[]⟩) ::
  (1000084,.un .not (LF (.h 44)) (LF (.h 45))) ::
  (10045,.fb 45 false) ::
  (1000089,.bin .eql 33 (LF (.h 30)) (LF (.k (.int .i64 0))) (LF (.h 46))) ::
  (10046,.fb 46 true) ::
  (1000092,.call ⟨22,[.o (.c (.h 29))],[],.o (.c (.h 47)),[]⟩) ::
  (1000093,.un .not (LF (.h 47)) (LF (.h 48))) ::
  (10048,.fb 48 false) ::
  (1000098,.bin .eql 3 (LF (.h 33)) (LF (.k (.int .i64 3))) (LF (.h 49))) ::
  (10049,.fb 49 true) ::
  (1000102,.bin .add 3 (LF (.h 27)) (LF (.h 29)) (LF (.h 50))) ::
  (1000105,.bin .neq 33 (LF (.h 28)) (LF (.k (.int .i64 0))) (LF (.h 51))) ::
  (10051,.fb 51 false) ::
  (1000108,.bin .neq 33 (LF (.h 30)) (LF (.k (.int .i64 0))) (LF (.h 52))) ::
  (10052,.fb 52 false) ::
  (1000112,.call ⟨22,[.o (.c (.h 50))],[],.o (.c (.h 53)),[]⟩) ::
  (1000113,.un .not (LF (.h 53)) (LF (.h 54))) ::
  (10054,.fb 54 true) ::
  (1000118,.bin .eql 33 (LF (.h 38)) (LF (.k (.int .i64 3))) (LF (.h 55))) ::
  (10055,.fb 55 true) ::
  (1000122,.bin .eql 3 (LF (.h 37)) (LF (.k (.int .i64 0))) (LF (.h 56)))::[]:List (Nat×Ent))) (k:=⟨5,[.o (.g [.h 0,.h 1,.h 2,.h 3,.h 4,.h 5,.h 6]),.o (.g [.h 7,.h 8,.h 9,.h 10,.h 11,.h 12,.h 13]),.o (.c (.h 14)),.o (.c (.h 15))],[],.o (.c (.h 56)),[]⟩) ⟨[],[⟨1000002,[.gn 9],[],[]⟩,⟨2,.gl 5 3 1 2::[31].map (fun s=>.sl s (.o (.c (.gr 5)))),[31].map (fun s=>.sl s (.o (.c (.h 19)))),[5]⟩],0⟩ [] 0 (zi ⟨(ze zf),zb rfl,zb rfl,zb rfl,zb rfl,zb rfl,zb rfl,(ze zf),zb rfl,zb rfl,zb rfl,zb rfl,zb rfl,zb rfl,(ze zf),zb rfl,zb rfl,zb rfl,(ze zf),(ze zf),(ze zf),zb rfl,zb rfl,(ze (zh rfl)),zb rfl,zb rfl,(ze (zh rfl)),zb rfl,zb rfl,zb rfl,zb rfl,zb rfl,zb rfl,zb rfl,zb rfl,zb rfl,(ze (zh rfl)),zb rfl,zb rfl,zb rfl,zb rfl,zb rfl,zb rfl,zb rfl,zb rfl,zb rfl,zb rfl,zb rfl,zb rfl,zb rfl,zb rfl,zb rfl,zb rfl,zb rfl,zb rfl,zb rfl,zb rfl,trivial⟩ ⟨(zk zf),(zk zf),(zk zf),trivial⟩) ⟨zg (zH hL) rfl rfl rfl rfl,
  e_glt (c:=cI) (l:=([]:List Int)) rfl rfl (fun _ _ _ h=>h) rfl zf (by decide),
  zm (E:=3) (by kernel_rfl) (zd rfl) (za (by rw [← e1];rfl)),
  e_op2 (za rfl) zc (za rfl) (fun W=>by rw [← e2];exact zK W),
  zw (E:=3) (z:=1) (fun _=>rfl) (by kernel_rfl) (by kernel_rfl) (zd rfl) (za rfl) s4 s6 (zd (by rw [e5];rfl)),
  qi (c:=cI) zf (fun _=>rfl) rfl (by rw [e7];rfl) rfl s8,
  qj (c:=cI) (l2:=([(1:Int),(2:Int),(3:Int)]:List Int)) zf (fun _=>rfl) rfl (by rw [e9];rfl) rfl (fun _ _ _ h=>h) rfl rfl s10,
  zw (E:=3) (z:=1) (fun _=>rfl) (by kernel_rfl) (by kernel_rfl) (zd rfl) zc s12 s14 (zd (by rw [e13];rfl)),
  zg (zE c (3:Int) v15 e15 s16 s17) rfl rfl rfl rfl,
  zg (zE d (3:Int) v18 e18 s19 s20) rfl rfl rfl rfl,
  zg (zr v15 v13 v21 v22 e21 e22 s23) rfl rfl rfl rfl,
  zg (zr v18 v13 v24 v25 e24 e25 s26) rfl rfl rfl rfl,
  e_op1 (za rfl) (za rfl) (fun W=>by rw [← e27];exact r_cvi (by kernel_rfl) (by kernel_rfl) W),
  e_bin (za rfl) zc (za rfl) (r_ar ((zU (by decide)).trans (congrArg some e28))),
  e_bin zc (za rfl) (za rfl) (r_ar (congrArg some e29)),
  zg (x_opL v29 v15 v18 v30 e30) rfl rfl rfl rfl,
  zg (zr v30 v13 v31 v32 e31 e32 s33) rfl rfl rfl rfl,
  zg (zS v30 (30:Int) v34 e34 s35 s36) rfl rfl rfl rfl,
  e_bin (za rfl) zc (za rfl) (r_cmp (congrArg some e37)),
  e_fb (show pV (.bool v37)=_ by rw [h38]),
  e_bin (za rfl) zc (za rfl) (r_cmp (congrArg some e39)),
  e_fb (show pV (.bool v39)=_ by rw [h40]),
  e_bin (za rfl) zc (za rfl) (r_cmp (congrArg some e41)),
  e_fb (show pV (.bool v41)=_ by rw [h42]),
  e_bin (za rfl) zc (za rfl) (r_cmp (congrArg some e43)),
  e_fb (show pV (.bool v43)=_ by rw [h44]),
  zg (zy v21 v45 e45) rfl rfl rfl rfl,
  e_un (za rfl) (za rfl) (fun W=>by rw [← e46];exact r_not W),
  e_fb (show pV (.bool v46)=_ by rw [h47]),
  e_bin (za rfl) zc (za rfl) (r_cmp (congrArg some e48)),
  e_fb (show pV (.bool v48)=_ by rw [h49]),
  zg (zy v24 v50 e50) rfl rfl rfl rfl,
  e_un (za rfl) (za rfl) (fun W=>by rw [← e51];exact r_not W),
  e_fb (show pV (.bool v51)=_ by rw [h52]),
  e_bin (za rfl) zc (za rfl) (r_cmp (congrArg some e53)),
  e_fb (show pV (.bool v53)=_ by rw [h54]),
  e_bin (za rfl) (za rfl) (za rfl) (r_ar (congrArg some e55)),
  e_bin (za rfl) zc (za rfl) (r_cmp (congrArg some e56)),
  e_fb (show pV (.bool v56)=_ by rw [h57]),
  e_bin (za rfl) zc (za rfl) (r_cmp (congrArg some e58)),
  e_fb (show pV (.bool v58)=_ by rw [h59]),
  zg (zy v55 v60 e60) rfl rfl rfl rfl,
  e_un (za rfl) (za rfl) (fun W=>by rw [← e61];exact r_not W),
  e_fb (show pV (.bool v61)=_ by rw [h62]),
  e_bin (za rfl) zc (za rfl) (r_cmp (congrArg some e63)),
  e_fb (show pV (.bool v63)=_ by rw [h64]),
  e_bin (za rfl) zc (za rfl) (r_cmp (congrArg some e65)),
  trivial⟩ mixed ⟨zR,zD (c:=cI) (fun _=>rfl) (by decide) zf rfl rfl,trivial⟩ (fun _ _ _ _ _ hs=>by cases hs) (by kernel_rfl)) rfl rfl rfl rfl
theorem zgy {w0:World} (c:(List Int)) (c0:Int) (c1:Int) (c2:Int) (c3:Int) (c4:Int) (c5:Int) (d:(List Int)) (d0:Int) (d1:Int) (d2:Int) (d3:Int) (d4:Int) (d5:Int) (x:(List Int)) (z:Int) (hL:LibT w0) (v1:Int) (v2:Int) (n3:Nat) (v5:(List Int)) (v7:(List Int)) (v9:(List Int)) (n11:Nat) (v13:(List Int)) (v15:Xp) (v18:Xp) (v21:Int) (v22:Int) (v24:Int) (v25:Int) (v27:Int) (v28:Int) (v29:Int) (v30:Xp) (v31:Int) (v32:Int) (v34:Int) (v37:Bool) (v39:Bool) (v41:Bool) (v43:Bool) (v45:Bool) (v46:Bool) (v48:Bool) (v50:Bool) (v51:Bool) (v53:Bool) (v55:Bool) (v57:Int) (v58:Bool) (v60:Bool) (v62:Bool) (v63:Bool) (v65:Bool) (v67:Bool) (e1:((x.length:Int))=v1) (e2:((if (3:Int)<v1 then (3:Int) else v1))=v2) (e5:(x.take n3)=v5) (e7:(([]:List Int)++v5)=v7) (e9:(v7++([(1:Int),(2:Int),(3:Int)]:List Int))=v9) (e13:(v9.take n11)=v13) (e15:(madE c)=v15) (e18:(madE d)=v18) (e21:((evalE v15 v13).1)=v21) (e22:((evalE v15 v13).2)=v22) (e24:((evalE v18 v13).1)=v24) (e25:((evalE v18 v13).2)=v25) (e27:(IntKind.i64.wrap z)=v27) (e28:((v27:Int).tmod (5:Int))=v28) (e29:(IntKind.i64.wrap ((3:Int)+v28))=v29) (e30:((Xp.mk v29 0 [v15,v18]))=v30) (e31:((evalE v30 v13).1)=v31) (e32:((evalE v30 v13).2)=v32) (e34:(sizeX v30 (30:Int))=v34) (e37:(decide (v34 > (30:Int)))=v37) (e39:((v22 != (0:Int)))=v39) (e41:((v25 != (0:Int)))=v41) (e43:((v22 == (0:Int)))=v43) (e45:(valB v21)=v45) (e46:(!v45)=v46) (e48:((v25 == (0:Int)))=v48) (e50:(valB v24)=v50) (e51:(!v50)=v51) (e53:((v29 == (3:Int)))=v53) (e55:((v29 == (4:Int)))=v55) (e57:(IntKind.i64.wrap (v21 - v24))=v57) (e58:((v22 != (0:Int)))=v58) (e60:((v25 != (0:Int)))=v60) (e62:(valB v57)=v62) (e63:(!v62)=v63) (e65:((v32 == (0:Int)))=v65) (e67:((v31 == v57))=v67) (s4:v2=(n3:Int)) (s6:n3≤x.length) (s8:(([]:List Int).length+v5.length)*1≤1099511627776) (s10:(v7.length+([(1:Int),(2:Int),(3:Int)]:List Int).length)*1≤1099511627776) (s12:(3:Int)=(n11:Int)) (s14:n11≤v9.length) (s16:(3:Int)=3) (s17:c.length<9223372036854775807) (s19:(3:Int)=3) (s20:d.length<9223372036854775807) (s23:nodes v15≤1000000) (s26:nodes v18≤1000000) (s33:nodes v30≤1000000) (s35:nodes v30≤1000000) (s36:0≤(30:Int)∧(30:Int)≤1000) (h38:v37=false) (h40:v39=false) (h42:v41=false) (h44:v43=true) (h47:v46=false) (h49:v48=true) (h52:v51=false) (h54:v53=false) (h56:v55=true) (h59:v58=false) (h61:v60=false) (h64:v63=false) (h66:v65=true):Fun (KN w0) Tryd.prog 5 [.o (.g [pLs cI c,pI c0,pI c1,pI c2,pI c3,pI c4,pI c5]),.o (.g [pLs cI d,pI d0,pI d1,pI d2,pI d3,pI d4,pI d5]),.o (.c (pLs cI x)),.o (.c (pV (.int .u8 z)))] (.o (.c (pB v67))):=
 zj (zA (F:=FL [pLs cI c,pI c0,pI c1,pI c2,pI c3,pI c4,pI c5,pLs cI d,pI d0,pI d1,pI d2,pI d3,pI d4,pI d5,pLs cI x,pV (.int .u8 z),pI v1,pI v2,pLs cI v5,pLs cI v9,pLs cI v13,pI v15.op,pI v15.n,pLs cE v15.l,pI v18.op,pI v18.n,pLs cE v18.l,pI v21,pI v22,pI v24,pI v25,pI v27,pI v28,pI v29,pI v30.op,pI v30.n,pLs cE v30.l,pI v31,pI v32,pI v34,pB v37,pB v39,pB v41,pB v43,pB v45,pB v46,pB v48,pB v50,pB v51,pB v53,pB v55,pI v57,pB v58,pB v60,pB v62,pB v63,pB v65,pB v67] [pG cI ([]:List Int),pG cI v7,pG cI v9]) (C:=((1000003,.call ⟨8,[],[],.o (.c (.k (.bool true))),[]⟩) ::
  (1000005,.glt 3 1 [] 0) ::
  (1000008,.op (.len [22] 3) [LF (.h 14)] [] (LF (.h 16))) ::
  (1000009,.op (.min [3,3] 3) [LF (.h 16),LF (.k (.int .i64 3))] [] (LF (.h 17))) ::
  (1000010,.op (.sc 22 false true false) [LF (.h 14),LF (.h 17)] [] (LF (.h 18))) ::
  (1000011,.app 3 1 5 0 1 (.o (.c (.h 18))) [] false) ::
  (1000013,.app 3 1 5 1 2 (.o (.c (.s 12 0 3 3))) [.bx 12 3 [.k (.int .i64 1),.k (.int .i64 2),.k (.int .i64 3)]] false) ::
  (1000014,.op (.sc 22 false true false) [LF (.h 19),LF (.k (.int .i64 3))] [] (LF (.h 20))) ::
  (1000018,.call ⟨19,[.o (.c (.h 0)),.o (.c (.k (.int .i64 3)))],[],.o (.g [.h 21,.h 22,.h 23]),[]⟩) ::
  (1000021,.call ⟨19,[.o (.c (.h 7)),.o (.c (.k (.int .i64 3)))],[],.o (.g [.h 24,.h 25,.h 26]),[]⟩) ::
  (1000028,.call ⟨13,[.o (.g [.h 21,.h 22,.h 23]),.o (.c (.h 20))],[],.t [.c (.h 27),.c (.h 28)],[]⟩) ::
  (1000036,.call ⟨13,[.o (.g [.h 24,.h 25,.h 26]),.o (.c (.h 20))],[],.t [.c (.h 29),.c (.h 30)],[]⟩) ::
  (1000043,.op (.cv 5 3) [LF (.h 15)] [] (LF (.h 31))) ::
  (1000044,.bin .rem 3 (LF (.h 31)) (LF (.k (.int .i64 5))) (LF (.h 32))) ::
  (1000045,.bin .add 3 (LF (.k (.int .i64 3))) (LF (.h 32)) (LF (.h 33))) ::
  (1000050,.call ⟨20,[.o (.c (.h 33)),.o (.g [.h 21,.h 22,.h 23]),.o (.g [.h 24,.h 25,.h 26])],[],.o (.g [.h 34,.h 35,.h 36]),[]⟩) ::
  (1000055,.call ⟨13,[.o (.g [.h 34,.h 35,.h 36]),.o (.c (.h 20))],[],.t [.c (.h 37),.c (.h 38)],[]⟩) ::
  (1000062,.call ⟨21,[.o (.g [.h 34,.h 35,.h 36]),.o (.c (.k (.int .i64 30)))],[],.o (.c (.h 39)),[]⟩) ::
  (1000063,.bin .gtr 3 (LF (.h 39)) (LF (.k (.int .i64 30))) (LF (.h 40))) ::
  (10040,.fb 40 false) ::
  (1000065,.bin .neq 33 (LF (.h 28)) (LF (.k (.int .i64 0))) (LF (.h 41))) ::
  (10041,.fb 41 false) ::
  (1000072,.bin .neq 33 (LF (.h 30)) (LF (.k (.int .i64 0))) (LF (.h 42))) ::
  (10042,.fb 42 false) ::
  (1000080,.bin .eql 33 (LF (.h 28)) (LF (.k (.int .i64 0))) (LF (.h 43))) ::
  (10043,.fb 43 true) ::
  (1000083,.call ⟨22,[.o (.c (.h 27))],[],.o (.c (.h 44)),[]⟩) ::
  (1000084,.un .not (LF (.h 44)) (LF (.h 45))) ::
  (10045,.fb 45 false) ::
  (1000089,.bin .eql 33 (LF (.h 30)) (LF (.k (.int .i64 0))) (LF (.h 46))) ::
  (10046,.fb 46 true) ::
  (1000092,.call ⟨22,[.o (.c (.h 29))],[],.o (.c (.h 47)),[]⟩) ::
  (1000093,.un .not (LF (.h 47)) (LF (.h 48))) ::
  (10048,.fb 48 false) ::
  (1000098,.bin .eql 3 (LF (.h 33)) (LF (.k (.int .i64 3))) (LF (.h 49))) ::
  (10049,.fb 49 false) ::
  (1000100,.bin .eql 3 (LF (.h 33)) (LF (.k (.int .i64 4))) (LF (.h 50))) ::
  (10050,.fb 50 true) ::
  (1000104,.bin .sub 3 (LF (.h 27)) (LF (.h 29)) (LF (.h 51))) ::
  (1000107,.bin .neq 33 (LF (.h 28)) (LF (.k (.int .i64 0))) (LF (.h 52))) ::
  (10052,.fb 52 false) ::
  (1000110,.bin .neq 33 (LF (.h 30)) (LF (.k (.int .i64 0))) (LF (.h 53))) ::
  (10053,.fb 53 false) ::
  (1000114,.call ⟨22,[.o (.c (.h 51))],[],.o (.c (.h 54)),[]⟩) ::
  (1000115,.un .not (LF (.h 54)) (LF (.h 55))) ::
  (10055,.fb 55 false) ::
  (1000120,.bin .eql 33 (LF (.h 38)) (LF (.k (.int .i64 0))) (LF (.h 56))) ::
  (10056,.fb 56 true) ::
  (1000125,.bin .eql 3 (LF (.h 37)) (LF (.h 51)) (LF (.h 57)))::[]:List (Nat×Ent))) (k:=⟨5,[.o (.g [.h 0,.h 1,.h 2,.h 3,.h 4,.h 5,.h 6]),.o (.g [.h 7,.h 8,.h 9,.h 10,.h 11,.h 12,.h 13]),.o (.c (.h 14)),.o (.c (.h 15))],[],.o (.c (.h 57)),[]⟩) ⟨[],[⟨1000002,[.gn 9],[],[]⟩,⟨2,.gl 5 3 1 2::[31].map (fun s=>.sl s (.o (.c (.gr 5)))),[31].map (fun s=>.sl s (.o (.c (.h 19)))),[5]⟩],0⟩ [] 0 (zi ⟨(ze zf),zb rfl,zb rfl,zb rfl,zb rfl,zb rfl,zb rfl,(ze zf),zb rfl,zb rfl,zb rfl,zb rfl,zb rfl,zb rfl,(ze zf),zb rfl,zb rfl,zb rfl,(ze zf),(ze zf),(ze zf),zb rfl,zb rfl,(ze (zh rfl)),zb rfl,zb rfl,(ze (zh rfl)),zb rfl,zb rfl,zb rfl,zb rfl,zb rfl,zb rfl,zb rfl,zb rfl,zb rfl,(ze (zh rfl)),zb rfl,zb rfl,zb rfl,zb rfl,zb rfl,zb rfl,zb rfl,zb rfl,zb rfl,zb rfl,zb rfl,zb rfl,zb rfl,zb rfl,zb rfl,zb rfl,zb rfl,zb rfl,zb rfl,zb rfl,zb rfl,trivial⟩ ⟨(zk zf),(zk zf),(zk zf),trivial⟩) ⟨zg (zH hL) rfl rfl rfl rfl,
  e_glt (c:=cI) (l:=([]:List Int)) rfl rfl (fun _ _ _ h=>h) rfl zf (by decide),
  zm (E:=3) (by kernel_rfl) (zd rfl) (za (by rw [← e1];rfl)),
  e_op2 (za rfl) zc (za rfl) (fun W=>by rw [← e2];exact zK W),
  zw (E:=3) (z:=1) (fun _=>rfl) (by kernel_rfl) (by kernel_rfl) (zd rfl) (za rfl) s4 s6 (zd (by rw [e5];rfl)),
  qi (c:=cI) zf (fun _=>rfl) rfl (by rw [e7];rfl) rfl s8,
  qj (c:=cI) (l2:=([(1:Int),(2:Int),(3:Int)]:List Int)) zf (fun _=>rfl) rfl (by rw [e9];rfl) rfl (fun _ _ _ h=>h) rfl rfl s10,
  zw (E:=3) (z:=1) (fun _=>rfl) (by kernel_rfl) (by kernel_rfl) (zd rfl) zc s12 s14 (zd (by rw [e13];rfl)),
  zg (zE c (3:Int) v15 e15 s16 s17) rfl rfl rfl rfl,
  zg (zE d (3:Int) v18 e18 s19 s20) rfl rfl rfl rfl,
  zg (zr v15 v13 v21 v22 e21 e22 s23) rfl rfl rfl rfl,
  zg (zr v18 v13 v24 v25 e24 e25 s26) rfl rfl rfl rfl,
  e_op1 (za rfl) (za rfl) (fun W=>by rw [← e27];exact r_cvi (by kernel_rfl) (by kernel_rfl) W),
  e_bin (za rfl) zc (za rfl) (r_ar ((zU (by decide)).trans (congrArg some e28))),
  e_bin zc (za rfl) (za rfl) (r_ar (congrArg some e29)),
  zg (x_opL v29 v15 v18 v30 e30) rfl rfl rfl rfl,
  zg (zr v30 v13 v31 v32 e31 e32 s33) rfl rfl rfl rfl,
  zg (zS v30 (30:Int) v34 e34 s35 s36) rfl rfl rfl rfl,
  e_bin (za rfl) zc (za rfl) (r_cmp (congrArg some e37)),
  e_fb (show pV (.bool v37)=_ by rw [h38]),
  e_bin (za rfl) zc (za rfl) (r_cmp (congrArg some e39)),
  e_fb (show pV (.bool v39)=_ by rw [h40]),
  e_bin (za rfl) zc (za rfl) (r_cmp (congrArg some e41)),
  e_fb (show pV (.bool v41)=_ by rw [h42]),
  e_bin (za rfl) zc (za rfl) (r_cmp (congrArg some e43)),
  e_fb (show pV (.bool v43)=_ by rw [h44]),
  zg (zy v21 v45 e45) rfl rfl rfl rfl,
  e_un (za rfl) (za rfl) (fun W=>by rw [← e46];exact r_not W),
  e_fb (show pV (.bool v46)=_ by rw [h47]),
  e_bin (za rfl) zc (za rfl) (r_cmp (congrArg some e48)),
  e_fb (show pV (.bool v48)=_ by rw [h49]),
  zg (zy v24 v50 e50) rfl rfl rfl rfl,
  e_un (za rfl) (za rfl) (fun W=>by rw [← e51];exact r_not W),
  e_fb (show pV (.bool v51)=_ by rw [h52]),
  e_bin (za rfl) zc (za rfl) (r_cmp (congrArg some e53)),
  e_fb (show pV (.bool v53)=_ by rw [h54]),
  e_bin (za rfl) zc (za rfl) (r_cmp (congrArg some e55)),
  e_fb (show pV (.bool v55)=_ by rw [h56]),
  e_bin (za rfl) (za rfl) (za rfl) (r_ar (congrArg some e57)),
  e_bin (za rfl) zc (za rfl) (r_cmp (congrArg some e58)),
  e_fb (show pV (.bool v58)=_ by rw [h59]),
  e_bin (za rfl) zc (za rfl) (r_cmp (congrArg some e60)),
  e_fb (show pV (.bool v60)=_ by rw [h61]),
  zg (zy v57 v62 e62) rfl rfl rfl rfl,
  e_un (za rfl) (za rfl) (fun W=>by rw [← e63];exact r_not W),
  e_fb (show pV (.bool v63)=_ by rw [h64]),
  e_bin (za rfl) zc (za rfl) (r_cmp (congrArg some e65)),
  e_fb (show pV (.bool v65)=_ by rw [h66]),
  e_bin (za rfl) (za rfl) (za rfl) (r_cmp (congrArg some e67)),
  trivial⟩ mixed ⟨zR,zD (c:=cI) (fun _=>rfl) (by decide) zf rfl rfl,trivial⟩ (fun _ _ _ _ _ hs=>by cases hs) (by kernel_rfl)) rfl rfl rfl rfl
theorem zgz {w0:World} (c:(List Int)) (c0:Int) (c1:Int) (c2:Int) (c3:Int) (c4:Int) (c5:Int) (d:(List Int)) (d0:Int) (d1:Int) (d2:Int) (d3:Int) (d4:Int) (d5:Int) (x:(List Int)) (z:Int) (hL:LibT w0) (v1:Int) (v2:Int) (n3:Nat) (v5:(List Int)) (v7:(List Int)) (v9:(List Int)) (n11:Nat) (v13:(List Int)) (v15:Xp) (v18:Xp) (v21:Int) (v22:Int) (v24:Int) (v25:Int) (v27:Int) (v28:Int) (v29:Int) (v30:Xp) (v31:Int) (v32:Int) (v34:Int) (v37:Bool) (v39:Bool) (v41:Bool) (v43:Bool) (v45:Bool) (v46:Bool) (v48:Bool) (v50:Bool) (v51:Bool) (v53:Bool) (v55:Bool) (v57:Int) (v58:Bool) (v60:Bool) (v62:Bool) (v63:Bool) (v65:Bool) (v67:Bool) (e1:((x.length:Int))=v1) (e2:((if (3:Int)<v1 then (3:Int) else v1))=v2) (e5:(x.take n3)=v5) (e7:(([]:List Int)++v5)=v7) (e9:(v7++([(1:Int),(2:Int),(3:Int)]:List Int))=v9) (e13:(v9.take n11)=v13) (e15:(madE c)=v15) (e18:(madE d)=v18) (e21:((evalE v15 v13).1)=v21) (e22:((evalE v15 v13).2)=v22) (e24:((evalE v18 v13).1)=v24) (e25:((evalE v18 v13).2)=v25) (e27:(IntKind.i64.wrap z)=v27) (e28:((v27:Int).tmod (5:Int))=v28) (e29:(IntKind.i64.wrap ((3:Int)+v28))=v29) (e30:((Xp.mk v29 0 [v15,v18]))=v30) (e31:((evalE v30 v13).1)=v31) (e32:((evalE v30 v13).2)=v32) (e34:(sizeX v30 (30:Int))=v34) (e37:(decide (v34 > (30:Int)))=v37) (e39:((v22 != (0:Int)))=v39) (e41:((v25 != (0:Int)))=v41) (e43:((v22 == (0:Int)))=v43) (e45:(valB v21)=v45) (e46:(!v45)=v46) (e48:((v25 == (0:Int)))=v48) (e50:(valB v24)=v50) (e51:(!v50)=v51) (e53:((v29 == (3:Int)))=v53) (e55:((v29 == (4:Int)))=v55) (e57:(IntKind.i64.wrap (v21 - v24))=v57) (e58:((v22 != (0:Int)))=v58) (e60:((v25 != (0:Int)))=v60) (e62:(valB v57)=v62) (e63:(!v62)=v63) (e65:((v32 == (3:Int)))=v65) (e67:((v31 == (0:Int)))=v67) (s4:v2=(n3:Int)) (s6:n3≤x.length) (s8:(([]:List Int).length+v5.length)*1≤1099511627776) (s10:(v7.length+([(1:Int),(2:Int),(3:Int)]:List Int).length)*1≤1099511627776) (s12:(3:Int)=(n11:Int)) (s14:n11≤v9.length) (s16:(3:Int)=3) (s17:c.length<9223372036854775807) (s19:(3:Int)=3) (s20:d.length<9223372036854775807) (s23:nodes v15≤1000000) (s26:nodes v18≤1000000) (s33:nodes v30≤1000000) (s35:nodes v30≤1000000) (s36:0≤(30:Int)∧(30:Int)≤1000) (h38:v37=false) (h40:v39=false) (h42:v41=false) (h44:v43=true) (h47:v46=false) (h49:v48=true) (h52:v51=false) (h54:v53=false) (h56:v55=true) (h59:v58=false) (h61:v60=false) (h64:v63=true) (h66:v65=true):Fun (KN w0) Tryd.prog 5 [.o (.g [pLs cI c,pI c0,pI c1,pI c2,pI c3,pI c4,pI c5]),.o (.g [pLs cI d,pI d0,pI d1,pI d2,pI d3,pI d4,pI d5]),.o (.c (pLs cI x)),.o (.c (pV (.int .u8 z)))] (.o (.c (pB v67))):=
 zj (zA (F:=FL [pLs cI c,pI c0,pI c1,pI c2,pI c3,pI c4,pI c5,pLs cI d,pI d0,pI d1,pI d2,pI d3,pI d4,pI d5,pLs cI x,pV (.int .u8 z),pI v1,pI v2,pLs cI v5,pLs cI v9,pLs cI v13,pI v15.op,pI v15.n,pLs cE v15.l,pI v18.op,pI v18.n,pLs cE v18.l,pI v21,pI v22,pI v24,pI v25,pI v27,pI v28,pI v29,pI v30.op,pI v30.n,pLs cE v30.l,pI v31,pI v32,pI v34,pB v37,pB v39,pB v41,pB v43,pB v45,pB v46,pB v48,pB v50,pB v51,pB v53,pB v55,pI v57,pB v58,pB v60,pB v62,pB v63,pB v65,pB v67] [pG cI ([]:List Int),pG cI v7,pG cI v9]) (C:=((1000003,.call ⟨8,[],[],.o (.c (.k (.bool true))),[]⟩) ::
  (1000005,.glt 3 1 [] 0) ::
  (1000008,.op (.len [22] 3) [LF (.h 14)] [] (LF (.h 16))) ::
  (1000009,.op (.min [3,3] 3) [LF (.h 16),LF (.k (.int .i64 3))] [] (LF (.h 17))) ::
  (1000010,.op (.sc 22 false true false) [LF (.h 14),LF (.h 17)] [] (LF (.h 18))) ::
  (1000011,.app 3 1 5 0 1 (.o (.c (.h 18))) [] false) ::
  (1000013,.app 3 1 5 1 2 (.o (.c (.s 12 0 3 3))) [.bx 12 3 [.k (.int .i64 1),.k (.int .i64 2),.k (.int .i64 3)]] false) ::
  (1000014,.op (.sc 22 false true false) [LF (.h 19),LF (.k (.int .i64 3))] [] (LF (.h 20))) ::
  (1000018,.call ⟨19,[.o (.c (.h 0)),.o (.c (.k (.int .i64 3)))],[],.o (.g [.h 21,.h 22,.h 23]),[]⟩) ::
  (1000021,.call ⟨19,[.o (.c (.h 7)),.o (.c (.k (.int .i64 3)))],[],.o (.g [.h 24,.h 25,.h 26]),[]⟩) ::
  (1000028,.call ⟨13,[.o (.g [.h 21,.h 22,.h 23]),.o (.c (.h 20))],[],.t [.c (.h 27),.c (.h 28)],[]⟩) ::
  (1000036,.call ⟨13,[.o (.g [.h 24,.h 25,.h 26]),.o (.c (.h 20))],[],.t [.c (.h 29),.c (.h 30)],[]⟩) ::
  (1000043,.op (.cv 5 3) [LF (.h 15)] [] (LF (.h 31))) ::
  (1000044,.bin .rem 3 (LF (.h 31)) (LF (.k (.int .i64 5))) (LF (.h 32))) ::
  (1000045,.bin .add 3 (LF (.k (.int .i64 3))) (LF (.h 32)) (LF (.h 33))) ::
  (1000050,.call ⟨20,[.o (.c (.h 33)),.o (.g [.h 21,.h 22,.h 23]),.o (.g [.h 24,.h 25,.h 26])],[],.o (.g [.h 34,.h 35,.h 36]),[]⟩) ::
  (1000055,.call ⟨13,[.o (.g [.h 34,.h 35,.h 36]),.o (.c (.h 20))],[],.t [.c (.h 37),.c (.h 38)],[]⟩) ::
  (1000062,.call ⟨21,[.o (.g [.h 34,.h 35,.h 36]),.o (.c (.k (.int .i64 30)))],[],.o (.c (.h 39)),[]⟩) ::
  (1000063,.bin .gtr 3 (LF (.h 39)) (LF (.k (.int .i64 30))) (LF (.h 40))) ::
  (10040,.fb 40 false) ::
  (1000065,.bin .neq 33 (LF (.h 28)) (LF (.k (.int .i64 0))) (LF (.h 41))) ::
  (10041,.fb 41 false) ::
  (1000072,.bin .neq 33 (LF (.h 30)) (LF (.k (.int .i64 0))) (LF (.h 42))) ::
  (10042,.fb 42 false) ::
  (1000080,.bin .eql 33 (LF (.h 28)) (LF (.k (.int .i64 0))) (LF (.h 43))) ::
  (10043,.fb 43 true) ::
  (1000083,.call ⟨22,[.o (.c (.h 27))],[],.o (.c (.h 44)),[]⟩) ::
  (1000084,.un .not (LF (.h 44)) (LF (.h 45))) ::
  (10045,.fb 45 false) ::
  (1000089,.bin .eql 33 (LF (.h 30)) (LF (.k (.int .i64 0))) (LF (.h 46))) ::
  (10046,.fb 46 true) ::
  (1000092,.call ⟨22,[.o (.c (.h 29))],[],.o (.c (.h 47)),[]⟩) ::
  (1000093,.un .not (LF (.h 47)) (LF (.h 48))) ::
  (10048,.fb 48 false) ::
  (1000098,.bin .eql 3 (LF (.h 33)) (LF (.k (.int .i64 3))) (LF (.h 49))) ::
  (10049,.fb 49 false) ::
  (1000100,.bin .eql 3 (LF (.h 33)) (LF (.k (.int .i64 4))) (LF (.h 50))) ::
  (10050,.fb 50 true) ::
  (1000104,.bin .sub 3 (LF (.h 27)) (LF (.h 29)) (LF (.h 51))) ::
  (1000107,.bin .neq 33 (LF (.h 28)) (LF (.k (.int .i64 0))) (LF (.h 52))) ::
  (10052,.fb 52 false) ::
  (1000110,.bin .neq 33 (LF (.h 30)) (LF (.k (.int .i64 0))) (LF (.h 53))) ::
  (10053,.fb 53 false) ::
  (1000114,.call ⟨22,[.o (.c (.h 51))],[],.o (.c (.h 54)),[]⟩) ::
  (1000115,.un .not (LF (.h 54)) (LF (.h 55))) ::
  (10055,.fb 55 true) ::
  (1000120,.bin .eql 33 (LF (.h 38)) (LF (.k (.int .i64 3))) (LF (.h 56))) ::
  (10056,.fb 56 true) ::
  (1000124,.bin .eql 3 (LF (.h 37)) (LF (.k (.int .i64 0))) (LF (.h 57)))::[]:List (Nat×Ent))) (k:=⟨5,[.o (.g [.h 0,.h 1,.h 2,.h 3,.h 4,.h 5,.h 6]),.o (.g [.h 7,.h 8,.h 9,.h 10,.h 11,.h 12,.h 13]),.o (.c (.h 14)),.o (.c (.h 15))],[],.o (.c (.h 57)),[]⟩) ⟨[],[⟨1000002,[.gn 9],[],[]⟩,⟨2,.gl 5 3 1 2::[31].map (fun s=>.sl s (.o (.c (.gr 5)))),[31].map (fun s=>.sl s (.o (.c (.h 19)))),[5]⟩],0⟩ [] 0 (zi ⟨(ze zf),zb rfl,zb rfl,zb rfl,zb rfl,zb rfl,zb rfl,(ze zf),zb rfl,zb rfl,zb rfl,zb rfl,zb rfl,zb rfl,(ze zf),zb rfl,zb rfl,zb rfl,(ze zf),(ze zf),(ze zf),zb rfl,zb rfl,(ze (zh rfl)),zb rfl,zb rfl,(ze (zh rfl)),zb rfl,zb rfl,zb rfl,zb rfl,zb rfl,zb rfl,zb rfl,zb rfl,zb rfl,(ze (zh rfl)),zb rfl,zb rfl,zb rfl,zb rfl,zb rfl,zb rfl,zb rfl,zb rfl,zb rfl,zb rfl,zb rfl,zb rfl,zb rfl,zb rfl,zb rfl,zb rfl,zb rfl,zb rfl,zb rfl,zb rfl,zb rfl,trivial⟩ ⟨(zk zf),(zk zf),(zk zf),trivial⟩) ⟨zg (zH hL) rfl rfl rfl rfl,
  e_glt (c:=cI) (l:=([]:List Int)) rfl rfl (fun _ _ _ h=>h) rfl zf (by decide),
  zm (E:=3) (by kernel_rfl) (zd rfl) (za (by rw [← e1];rfl)),
  e_op2 (za rfl) zc (za rfl) (fun W=>by rw [← e2];exact zK W),
  zw (E:=3) (z:=1) (fun _=>rfl) (by kernel_rfl) (by kernel_rfl) (zd rfl) (za rfl) s4 s6 (zd (by rw [e5];rfl)),
  qi (c:=cI) zf (fun _=>rfl) rfl (by rw [e7];rfl) rfl s8,
  qj (c:=cI) (l2:=([(1:Int),(2:Int),(3:Int)]:List Int)) zf (fun _=>rfl) rfl (by rw [e9];rfl) rfl (fun _ _ _ h=>h) rfl rfl s10,
  zw (E:=3) (z:=1) (fun _=>rfl) (by kernel_rfl) (by kernel_rfl) (zd rfl) zc s12 s14 (zd (by rw [e13];rfl)),
  zg (zE c (3:Int) v15 e15 s16 s17) rfl rfl rfl rfl,
  zg (zE d (3:Int) v18 e18 s19 s20) rfl rfl rfl rfl,
  zg (zr v15 v13 v21 v22 e21 e22 s23) rfl rfl rfl rfl,
  zg (zr v18 v13 v24 v25 e24 e25 s26) rfl rfl rfl rfl,
  e_op1 (za rfl) (za rfl) (fun W=>by rw [← e27];exact r_cvi (by kernel_rfl) (by kernel_rfl) W),
  e_bin (za rfl) zc (za rfl) (r_ar ((zU (by decide)).trans (congrArg some e28))),
  e_bin zc (za rfl) (za rfl) (r_ar (congrArg some e29)),
  zg (x_opL v29 v15 v18 v30 e30) rfl rfl rfl rfl,
  zg (zr v30 v13 v31 v32 e31 e32 s33) rfl rfl rfl rfl,
  zg (zS v30 (30:Int) v34 e34 s35 s36) rfl rfl rfl rfl,
  e_bin (za rfl) zc (za rfl) (r_cmp (congrArg some e37)),
  e_fb (show pV (.bool v37)=_ by rw [h38]),
  e_bin (za rfl) zc (za rfl) (r_cmp (congrArg some e39)),
  e_fb (show pV (.bool v39)=_ by rw [h40]),
  e_bin (za rfl) zc (za rfl) (r_cmp (congrArg some e41)),
  e_fb (show pV (.bool v41)=_ by rw [h42]),
  e_bin (za rfl) zc (za rfl) (r_cmp (congrArg some e43)),
  e_fb (show pV (.bool v43)=_ by rw [h44]),
  zg (zy v21 v45 e45) rfl rfl rfl rfl,
  e_un (za rfl) (za rfl) (fun W=>by rw [← e46];exact r_not W),
  e_fb (show pV (.bool v46)=_ by rw [h47]),
  e_bin (za rfl) zc (za rfl) (r_cmp (congrArg some e48)),
  e_fb (show pV (.bool v48)=_ by rw [h49]),
  zg (zy v24 v50 e50) rfl rfl rfl rfl,
  e_un (za rfl) (za rfl) (fun W=>by rw [← e51];exact r_not W),
  e_fb (show pV (.bool v51)=_ by rw [h52]),
  e_bin (za rfl) zc (za rfl) (r_cmp (congrArg some e53)),
  e_fb (show pV (.bool v53)=_ by rw [h54]),
  e_bin (za rfl) zc (za rfl) (r_cmp (congrArg some e55)),
  e_fb (show pV (.bool v55)=_ by rw [h56]),
  e_bin (za rfl) (za rfl) (za rfl) (r_ar (congrArg some e57)),
  e_bin (za rfl) zc (za rfl) (r_cmp (congrArg some e58)),
  e_fb (show pV (.bool v58)=_ by rw [h59]),
  e_bin (za rfl) zc (za rfl) (r_cmp (congrArg some e60)),
  e_fb (show pV (.bool v60)=_ by rw [h61]),
  zg (zy v57 v62 e62) rfl rfl rfl rfl,
  e_un (za rfl) (za rfl) (fun W=>by rw [← e63];exact r_not W),
  e_fb (show pV (.bool v63)=_ by rw [h64]),
  e_bin (za rfl) zc (za rfl) (r_cmp (congrArg some e65)),
  e_fb (show pV (.bool v65)=_ by rw [h66]),
  e_bin (za rfl) zc (za rfl) (r_cmp (congrArg some e67)),
  trivial⟩ mixed ⟨zR,zD (c:=cI) (fun _=>rfl) (by decide) zf rfl rfl,trivial⟩ (fun _ _ _ _ _ hs=>by cases hs) (by kernel_rfl)) rfl rfl rfl rfl
theorem zgA {w0:World} (c:(List Int)) (c0:Int) (c1:Int) (c2:Int) (c3:Int) (c4:Int) (c5:Int) (d:(List Int)) (d0:Int) (d1:Int) (d2:Int) (d3:Int) (d4:Int) (d5:Int) (x:(List Int)) (z:Int) (hL:LibT w0) (v1:Int) (v2:Int) (n3:Nat) (v5:(List Int)) (v7:(List Int)) (v9:(List Int)) (n11:Nat) (v13:(List Int)) (v15:Xp) (v18:Xp) (v21:Int) (v22:Int) (v24:Int) (v25:Int) (v27:Int) (v28:Int) (v29:Int) (v30:Xp) (v31:Int) (v32:Int) (v34:Int) (v37:Bool) (v39:Bool) (v41:Bool) (v43:Bool) (v45:Bool) (v46:Bool) (v48:Bool) (v50:Bool) (v51:Bool) (v53:Bool) (v55:Bool) (v57:Bool) (v59:Int) (v60:Bool) (v62:Bool) (v64:Bool) (v65:Bool) (v67:Bool) (v69:Bool) (e1:((x.length:Int))=v1) (e2:((if (3:Int)<v1 then (3:Int) else v1))=v2) (e5:(x.take n3)=v5) (e7:(([]:List Int)++v5)=v7) (e9:(v7++([(1:Int),(2:Int),(3:Int)]:List Int))=v9) (e13:(v9.take n11)=v13) (e15:(madE c)=v15) (e18:(madE d)=v18) (e21:((evalE v15 v13).1)=v21) (e22:((evalE v15 v13).2)=v22) (e24:((evalE v18 v13).1)=v24) (e25:((evalE v18 v13).2)=v25) (e27:(IntKind.i64.wrap z)=v27) (e28:((v27:Int).tmod (5:Int))=v28) (e29:(IntKind.i64.wrap ((3:Int)+v28))=v29) (e30:((Xp.mk v29 0 [v15,v18]))=v30) (e31:((evalE v30 v13).1)=v31) (e32:((evalE v30 v13).2)=v32) (e34:(sizeX v30 (30:Int))=v34) (e37:(decide (v34 > (30:Int)))=v37) (e39:((v22 != (0:Int)))=v39) (e41:((v25 != (0:Int)))=v41) (e43:((v22 == (0:Int)))=v43) (e45:(valB v21)=v45) (e46:(!v45)=v46) (e48:((v25 == (0:Int)))=v48) (e50:(valB v24)=v50) (e51:(!v50)=v51) (e53:((v29 == (3:Int)))=v53) (e55:((v29 == (4:Int)))=v55) (e57:((v29 == (5:Int)))=v57) (e59:(IntKind.i64.wrap (v21*v24))=v59) (e60:((v22 != (0:Int)))=v60) (e62:((v25 != (0:Int)))=v62) (e64:(valB v59)=v64) (e65:(!v64)=v65) (e67:((v32 == (0:Int)))=v67) (e69:((v31 == v59))=v69) (s4:v2=(n3:Int)) (s6:n3≤x.length) (s8:(([]:List Int).length+v5.length)*1≤1099511627776) (s10:(v7.length+([(1:Int),(2:Int),(3:Int)]:List Int).length)*1≤1099511627776) (s12:(3:Int)=(n11:Int)) (s14:n11≤v9.length) (s16:(3:Int)=3) (s17:c.length<9223372036854775807) (s19:(3:Int)=3) (s20:d.length<9223372036854775807) (s23:nodes v15≤1000000) (s26:nodes v18≤1000000) (s33:nodes v30≤1000000) (s35:nodes v30≤1000000) (s36:0≤(30:Int)∧(30:Int)≤1000) (h38:v37=false) (h40:v39=false) (h42:v41=false) (h44:v43=true) (h47:v46=false) (h49:v48=true) (h52:v51=false) (h54:v53=false) (h56:v55=false) (h58:v57=true) (h61:v60=false) (h63:v62=false) (h66:v65=false) (h68:v67=true):Fun (KN w0) Tryd.prog 5 [.o (.g [pLs cI c,pI c0,pI c1,pI c2,pI c3,pI c4,pI c5]),.o (.g [pLs cI d,pI d0,pI d1,pI d2,pI d3,pI d4,pI d5]),.o (.c (pLs cI x)),.o (.c (pV (.int .u8 z)))] (.o (.c (pB v69))):=
 zj (zA (F:=FL [pLs cI c,pI c0,pI c1,pI c2,pI c3,pI c4,pI c5,pLs cI d,pI d0,pI d1,pI d2,pI d3,pI d4,pI d5,pLs cI x,pV (.int .u8 z),pI v1,pI v2,pLs cI v5,pLs cI v9,pLs cI v13,pI v15.op,pI v15.n,pLs cE v15.l,pI v18.op,pI v18.n,pLs cE v18.l,pI v21,pI v22,pI v24,pI v25,pI v27,pI v28,pI v29,pI v30.op,pI v30.n,pLs cE v30.l,pI v31,pI v32,pI v34,pB v37,pB v39,pB v41,pB v43,pB v45,pB v46,pB v48,pB v50,pB v51,pB v53,pB v55,pB v57,pI v59,pB v60,pB v62,pB v64,pB v65,pB v67,pB v69] [pG cI ([]:List Int),pG cI v7,pG cI v9]) (C:=((1000003,.call ⟨8,[],[],.o (.c (.k (.bool true))),[]⟩) ::
  (1000005,.glt 3 1 [] 0) ::
  (1000008,.op (.len [22] 3) [LF (.h 14)] [] (LF (.h 16))) ::
  (1000009,.op (.min [3,3] 3) [LF (.h 16),LF (.k (.int .i64 3))] [] (LF (.h 17))) ::
  (1000010,.op (.sc 22 false true false) [LF (.h 14),LF (.h 17)] [] (LF (.h 18))) ::
  (1000011,.app 3 1 5 0 1 (.o (.c (.h 18))) [] false) ::
  (1000013,.app 3 1 5 1 2 (.o (.c (.s 12 0 3 3))) [.bx 12 3 [.k (.int .i64 1),.k (.int .i64 2),.k (.int .i64 3)]] false) ::
  (1000014,.op (.sc 22 false true false) [LF (.h 19),LF (.k (.int .i64 3))] [] (LF (.h 20))) ::
  (1000018,.call ⟨19,[.o (.c (.h 0)),.o (.c (.k (.int .i64 3)))],[],.o (.g [.h 21,.h 22,.h 23]),[]⟩) ::
  (1000021,.call ⟨19,[.o (.c (.h 7)),.o (.c (.k (.int .i64 3)))],[],.o (.g [.h 24,.h 25,.h 26]),[]⟩) ::
  (1000028,.call ⟨13,[.o (.g [.h 21,.h 22,.h 23]),.o (.c (.h 20))],[],.t [.c (.h 27),.c (.h 28)],[]⟩) ::
  (1000036,.call ⟨13,[.o (.g [.h 24,.h 25,.h 26]),.o (.c (.h 20))],[],.t [.c (.h 29),.c (.h 30)],[]⟩) ::
  (1000043,.op (.cv 5 3) [LF (.h 15)] [] (LF (.h 31))) ::
  (1000044,.bin .rem 3 (LF (.h 31)) (LF (.k (.int .i64 5))) (LF (.h 32))) ::
  (1000045,.bin .add 3 (LF (.k (.int .i64 3))) (LF (.h 32)) (LF (.h 33))) ::
  (1000050,.call ⟨20,[.o (.c (.h 33)),.o (.g [.h 21,.h 22,.h 23]),.o (.g [.h 24,.h 25,.h 26])],[],.o (.g [.h 34,.h 35,.h 36]),[]⟩) ::
  (1000055,.call ⟨13,[.o (.g [.h 34,.h 35,.h 36]),.o (.c (.h 20))],[],.t [.c (.h 37),.c (.h 38)],[]⟩) ::
  (1000062,.call ⟨21,[.o (.g [.h 34,.h 35,.h 36]),.o (.c (.k (.int .i64 30)))],[],.o (.c (.h 39)),[]⟩) ::
  (1000063,.bin .gtr 3 (LF (.h 39)) (LF (.k (.int .i64 30))) (LF (.h 40))) ::
  (10040,.fb 40 false) ::
  (1000065,.bin .neq 33 (LF (.h 28)) (LF (.k (.int .i64 0))) (LF (.h 41))) ::
  (10041,.fb 41 false) ::
  (1000072,.bin .neq 33 (LF (.h 30)) (LF (.k (.int .i64 0))) (LF (.h 42))) ::
  (10042,.fb 42 false) ::
  (1000080,.bin .eql 33 (LF (.h 28)) (LF (.k (.int .i64 0))) (LF (.h 43))) ::
  (10043,.fb 43 true) ::
  (1000083,.call ⟨22,[.o (.c (.h 27))],[],.o (.c (.h 44)),[]⟩) ::
  (1000084,.un .not (LF (.h 44)) (LF (.h 45))) ::
  (10045,.fb 45 false) ::
  (1000089,.bin .eql 33 (LF (.h 30)) (LF (.k (.int .i64 0))) (LF (.h 46))) ::
  (10046,.fb 46 true) ::
  (1000092,.call ⟨22,[.o (.c (.h 29))],[],.o (.c (.h 47)),[]⟩) ::
  (1000093,.un .not (LF (.h 47)) (LF (.h 48))) ::
  (10048,.fb 48 false) ::
  (1000098,.bin .eql 3 (LF (.h 33)) (LF (.k (.int .i64 3))) (LF (.h 49))) ::
  (10049,.fb 49 false) ::
  (1000100,.bin .eql 3 (LF (.h 33)) (LF (.k (.int .i64 4))) (LF (.h 50))) ::
  (10050,.fb 50 false) ::
  (1000102,.bin .eql 3 (LF (.h 33)) (LF (.k (.int .i64 5))) (LF (.h 51))) ::
  (10051,.fb 51 true) ::
  (1000106,.bin .mul 3 (LF (.h 27)) (LF (.h 29)) (LF (.h 52))) ::
  (1000109,.bin .neq 33 (LF (.h 28)) (LF (.k (.int .i64 0))) (LF (.h 53))) ::
  (10053,.fb 53 false) ::
  (1000112,.bin .neq 33 (LF (.h 30)) (LF (.k (.int .i64 0))) (LF (.h 54))) ::
  (10054,.fb 54 false) ::
  (1000116,.call ⟨22,[.o (.c (.h 52))],[],.o (.c (.h 55)),[]⟩) ::
  (1000117,.un .not (LF (.h 55)) (LF (.h 56))) ::
  (10056,.fb 56 false) ::
  (1000122,.bin .eql 33 (LF (.h 38)) (LF (.k (.int .i64 0))) (LF (.h 57))) ::
  (10057,.fb 57 true) ::
  (1000127,.bin .eql 3 (LF (.h 37)) (LF (.h 52)) (LF (.h 58)))::[]:List (Nat×Ent))) (k:=⟨5,[.o (.g [.h 0,.h 1,.h 2,.h 3,.h 4,.h 5,.h 6]),.o (.g [.h 7,.h 8,.h 9,.h 10,.h 11,.h 12,.h 13]),.o (.c (.h 14)),.o (.c (.h 15))],[],.o (.c (.h 58)),[]⟩) ⟨[],[⟨1000002,[.gn 9],[],[]⟩,⟨2,.gl 5 3 1 2::[31].map (fun s=>.sl s (.o (.c (.gr 5)))),[31].map (fun s=>.sl s (.o (.c (.h 19)))),[5]⟩],0⟩ [] 0 (zi ⟨(ze zf),zb rfl,zb rfl,zb rfl,zb rfl,zb rfl,zb rfl,(ze zf),zb rfl,zb rfl,zb rfl,zb rfl,zb rfl,zb rfl,(ze zf),zb rfl,zb rfl,zb rfl,(ze zf),(ze zf),(ze zf),zb rfl,zb rfl,(ze (zh rfl)),zb rfl,zb rfl,(ze (zh rfl)),zb rfl,zb rfl,zb rfl,zb rfl,zb rfl,zb rfl,zb rfl,zb rfl,zb rfl,(ze (zh rfl)),zb rfl,zb rfl,zb rfl,zb rfl,zb rfl,zb rfl,zb rfl,zb rfl,zb rfl,zb rfl,zb rfl,zb rfl,zb rfl,zb rfl,zb rfl,zb rfl,zb rfl,zb rfl,zb rfl,zb rfl,zb rfl,zb rfl,trivial⟩ ⟨(zk zf),(zk zf),(zk zf),trivial⟩) ⟨zg (zH hL) rfl rfl rfl rfl,
  e_glt (c:=cI) (l:=([]:List Int)) rfl rfl (fun _ _ _ h=>h) rfl zf (by decide),
  zm (E:=3) (by kernel_rfl) (zd rfl) (za (by rw [← e1];rfl)),
  e_op2 (za rfl) zc (za rfl) (fun W=>by rw [← e2];exact zK W),
  zw (E:=3) (z:=1) (fun _=>rfl) (by kernel_rfl) (by kernel_rfl) (zd rfl) (za rfl) s4 s6 (zd (by rw [e5];rfl)),
  qi (c:=cI) zf (fun _=>rfl) rfl (by rw [e7];rfl) rfl s8,
  qj (c:=cI) (l2:=([(1:Int),(2:Int),(3:Int)]:List Int)) zf (fun _=>rfl) rfl (by rw [e9];rfl) rfl (fun _ _ _ h=>h) rfl rfl s10,
  zw (E:=3) (z:=1) (fun _=>rfl) (by kernel_rfl) (by kernel_rfl) (zd rfl) zc s12 s14 (zd (by rw [e13];rfl)),
  zg (zE c (3:Int) v15 e15 s16 s17) rfl rfl rfl rfl,
  zg (zE d (3:Int) v18 e18 s19 s20) rfl rfl rfl rfl,
  zg (zr v15 v13 v21 v22 e21 e22 s23) rfl rfl rfl rfl,
  zg (zr v18 v13 v24 v25 e24 e25 s26) rfl rfl rfl rfl,
  e_op1 (za rfl) (za rfl) (fun W=>by rw [← e27];exact r_cvi (by kernel_rfl) (by kernel_rfl) W),
  e_bin (za rfl) zc (za rfl) (r_ar ((zU (by decide)).trans (congrArg some e28))),
  e_bin zc (za rfl) (za rfl) (r_ar (congrArg some e29)),
  zg (x_opL v29 v15 v18 v30 e30) rfl rfl rfl rfl,
  zg (zr v30 v13 v31 v32 e31 e32 s33) rfl rfl rfl rfl,
  zg (zS v30 (30:Int) v34 e34 s35 s36) rfl rfl rfl rfl,
  e_bin (za rfl) zc (za rfl) (r_cmp (congrArg some e37)),
  e_fb (show pV (.bool v37)=_ by rw [h38]),
  e_bin (za rfl) zc (za rfl) (r_cmp (congrArg some e39)),
  e_fb (show pV (.bool v39)=_ by rw [h40]),
  e_bin (za rfl) zc (za rfl) (r_cmp (congrArg some e41)),
  e_fb (show pV (.bool v41)=_ by rw [h42]),
  e_bin (za rfl) zc (za rfl) (r_cmp (congrArg some e43)),
  e_fb (show pV (.bool v43)=_ by rw [h44]),
  zg (zy v21 v45 e45) rfl rfl rfl rfl,
  e_un (za rfl) (za rfl) (fun W=>by rw [← e46];exact r_not W),
  e_fb (show pV (.bool v46)=_ by rw [h47]),
  e_bin (za rfl) zc (za rfl) (r_cmp (congrArg some e48)),
  e_fb (show pV (.bool v48)=_ by rw [h49]),
  zg (zy v24 v50 e50) rfl rfl rfl rfl,
  e_un (za rfl) (za rfl) (fun W=>by rw [← e51];exact r_not W),
  e_fb (show pV (.bool v51)=_ by rw [h52]),
  e_bin (za rfl) zc (za rfl) (r_cmp (congrArg some e53)),
  e_fb (show pV (.bool v53)=_ by rw [h54]),
  e_bin (za rfl) zc (za rfl) (r_cmp (congrArg some e55)),
  e_fb (show pV (.bool v55)=_ by rw [h56]),
  e_bin (za rfl) zc (za rfl) (r_cmp (congrArg some e57)),
  e_fb (show pV (.bool v57)=_ by rw [h58]),
  e_bin (za rfl) (za rfl) (za rfl) (r_ar (congrArg some e59)),
  e_bin (za rfl) zc (za rfl) (r_cmp (congrArg some e60)),
  e_fb (show pV (.bool v60)=_ by rw [h61]),
  e_bin (za rfl) zc (za rfl) (r_cmp (congrArg some e62)),
  e_fb (show pV (.bool v62)=_ by rw [h63]),
  zg (zy v59 v64 e64) rfl rfl rfl rfl,
  e_un (za rfl) (za rfl) (fun W=>by rw [← e65];exact r_not W),
  e_fb (show pV (.bool v65)=_ by rw [h66]),
  e_bin (za rfl) zc (za rfl) (r_cmp (congrArg some e67)),
  e_fb (show pV (.bool v67)=_ by rw [h68]),
  e_bin (za rfl) (za rfl) (za rfl) (r_cmp (congrArg some e69)),
  trivial⟩ mixed ⟨zR,zD (c:=cI) (fun _=>rfl) (by decide) zf rfl rfl,trivial⟩ (fun _ _ _ _ _ hs=>by cases hs) (by kernel_rfl)) rfl rfl rfl rfl
theorem zgB {w0:World} (c:(List Int)) (c0:Int) (c1:Int) (c2:Int) (c3:Int) (c4:Int) (c5:Int) (d:(List Int)) (d0:Int) (d1:Int) (d2:Int) (d3:Int) (d4:Int) (d5:Int) (x:(List Int)) (z:Int) (hL:LibT w0) (v1:Int) (v2:Int) (n3:Nat) (v5:(List Int)) (v7:(List Int)) (v9:(List Int)) (n11:Nat) (v13:(List Int)) (v15:Xp) (v18:Xp) (v21:Int) (v22:Int) (v24:Int) (v25:Int) (v27:Int) (v28:Int) (v29:Int) (v30:Xp) (v31:Int) (v32:Int) (v34:Int) (v37:Bool) (v39:Bool) (v41:Bool) (v43:Bool) (v45:Bool) (v46:Bool) (v48:Bool) (v50:Bool) (v51:Bool) (v53:Bool) (v55:Bool) (v57:Bool) (v59:Int) (v60:Bool) (v62:Bool) (v64:Bool) (v65:Bool) (v67:Bool) (v69:Bool) (e1:((x.length:Int))=v1) (e2:((if (3:Int)<v1 then (3:Int) else v1))=v2) (e5:(x.take n3)=v5) (e7:(([]:List Int)++v5)=v7) (e9:(v7++([(1:Int),(2:Int),(3:Int)]:List Int))=v9) (e13:(v9.take n11)=v13) (e15:(madE c)=v15) (e18:(madE d)=v18) (e21:((evalE v15 v13).1)=v21) (e22:((evalE v15 v13).2)=v22) (e24:((evalE v18 v13).1)=v24) (e25:((evalE v18 v13).2)=v25) (e27:(IntKind.i64.wrap z)=v27) (e28:((v27:Int).tmod (5:Int))=v28) (e29:(IntKind.i64.wrap ((3:Int)+v28))=v29) (e30:((Xp.mk v29 0 [v15,v18]))=v30) (e31:((evalE v30 v13).1)=v31) (e32:((evalE v30 v13).2)=v32) (e34:(sizeX v30 (30:Int))=v34) (e37:(decide (v34 > (30:Int)))=v37) (e39:((v22 != (0:Int)))=v39) (e41:((v25 != (0:Int)))=v41) (e43:((v22 == (0:Int)))=v43) (e45:(valB v21)=v45) (e46:(!v45)=v46) (e48:((v25 == (0:Int)))=v48) (e50:(valB v24)=v50) (e51:(!v50)=v51) (e53:((v29 == (3:Int)))=v53) (e55:((v29 == (4:Int)))=v55) (e57:((v29 == (5:Int)))=v57) (e59:(IntKind.i64.wrap (v21*v24))=v59) (e60:((v22 != (0:Int)))=v60) (e62:((v25 != (0:Int)))=v62) (e64:(valB v59)=v64) (e65:(!v64)=v65) (e67:((v32 == (3:Int)))=v67) (e69:((v31 == (0:Int)))=v69) (s4:v2=(n3:Int)) (s6:n3≤x.length) (s8:(([]:List Int).length+v5.length)*1≤1099511627776) (s10:(v7.length+([(1:Int),(2:Int),(3:Int)]:List Int).length)*1≤1099511627776) (s12:(3:Int)=(n11:Int)) (s14:n11≤v9.length) (s16:(3:Int)=3) (s17:c.length<9223372036854775807) (s19:(3:Int)=3) (s20:d.length<9223372036854775807) (s23:nodes v15≤1000000) (s26:nodes v18≤1000000) (s33:nodes v30≤1000000) (s35:nodes v30≤1000000) (s36:0≤(30:Int)∧(30:Int)≤1000) (h38:v37=false) (h40:v39=false) (h42:v41=false) (h44:v43=true) (h47:v46=false) (h49:v48=true) (h52:v51=false) (h54:v53=false) (h56:v55=false) (h58:v57=true) (h61:v60=false) (h63:v62=false) (h66:v65=true) (h68:v67=true):Fun (KN w0) Tryd.prog 5 [.o (.g [pLs cI c,pI c0,pI c1,pI c2,pI c3,pI c4,pI c5]),.o (.g [pLs cI d,pI d0,pI d1,pI d2,pI d3,pI d4,pI d5]),.o (.c (pLs cI x)),.o (.c (pV (.int .u8 z)))] (.o (.c (pB v69))):=
 zj (zA (F:=FL [pLs cI c,pI c0,pI c1,pI c2,pI c3,pI c4,pI c5,pLs cI d,pI d0,pI d1,pI d2,pI d3,pI d4,pI d5,pLs cI x,pV (.int .u8 z),pI v1,pI v2,pLs cI v5,pLs cI v9,pLs cI v13,pI v15.op,pI v15.n,pLs cE v15.l,pI v18.op,pI v18.n,pLs cE v18.l,pI v21,pI v22,pI v24,pI v25,pI v27,pI v28,pI v29,pI v30.op,pI v30.n,pLs cE v30.l,pI v31,pI v32,pI v34,pB v37,pB v39,pB v41,pB v43,pB v45,pB v46,pB v48,pB v50,pB v51,pB v53,pB v55,pB v57,pI v59,pB v60,pB v62,pB v64,pB v65,pB v67,pB v69] [pG cI ([]:List Int),pG cI v7,pG cI v9]) (C:=((1000003,.call ⟨8,[],[],.o (.c (.k (.bool true))),[]⟩) ::
  (1000005,.glt 3 1 [] 0) ::
  (1000008,.op (.len [22] 3) [LF (.h 14)] [] (LF (.h 16))) ::
  (1000009,.op (.min [3,3] 3) [LF (.h 16),LF (.k (.int .i64 3))] [] (LF (.h 17))) ::
  (1000010,.op (.sc 22 false true false) [LF (.h 14),LF (.h 17)] [] (LF (.h 18))) ::
  (1000011,.app 3 1 5 0 1 (.o (.c (.h 18))) [] false) ::
  (1000013,.app 3 1 5 1 2 (.o (.c (.s 12 0 3 3))) [.bx 12 3 [.k (.int .i64 1),.k (.int .i64 2),.k (.int .i64 3)]] false) ::
  (1000014,.op (.sc 22 false true false) [LF (.h 19),LF (.k (.int .i64 3))] [] (LF (.h 20))) ::
  (1000018,.call ⟨19,[.o (.c (.h 0)),.o (.c (.k (.int .i64 3)))],[],.o (.g [.h 21,.h 22,.h 23]),[]⟩) ::
  (1000021,.call ⟨19,[.o (.c (.h 7)),.o (.c (.k (.int .i64 3)))],[],.o (.g [.h 24,.h 25,.h 26]),[]⟩) ::
  (1000028,.call ⟨13,[.o (.g [.h 21,.h 22,.h 23]),.o (.c (.h 20))],[],.t [.c (.h 27),.c (.h 28)],[]⟩) ::
  (1000036,.call ⟨13,[.o (.g [.h 24,.h 25,.h 26]),.o (.c (.h 20))],[],.t [.c (.h 29),.c (.h 30)],[]⟩) ::
  (1000043,.op (.cv 5 3) [LF (.h 15)] [] (LF (.h 31))) ::
  (1000044,.bin .rem 3 (LF (.h 31)) (LF (.k (.int .i64 5))) (LF (.h 32))) ::
  (1000045,.bin .add 3 (LF (.k (.int .i64 3))) (LF (.h 32)) (LF (.h 33))) ::
  (1000050,.call ⟨20,[.o (.c (.h 33)),.o (.g [.h 21,.h 22,.h 23]),.o (.g [.h 24,.h 25,.h 26])],[],.o (.g [.h 34,.h 35,.h 36]),[]⟩) ::
  (1000055,.call ⟨13,[.o (.g [.h 34,.h 35,.h 36]),.o (.c (.h 20))],[],.t [.c (.h 37),.c (.h 38)],[]⟩) ::
  (1000062,.call ⟨21,[.o (.g [.h 34,.h 35,.h 36]),.o (.c (.k (.int .i64 30)))],[],.o (.c (.h 39)),[]⟩) ::
  (1000063,.bin .gtr 3 (LF (.h 39)) (LF (.k (.int .i64 30))) (LF (.h 40))) ::
  (10040,.fb 40 false) ::
  (1000065,.bin .neq 33 (LF (.h 28)) (LF (.k (.int .i64 0))) (LF (.h 41))) ::
  (10041,.fb 41 false) ::
  (1000072,.bin .neq 33 (LF (.h 30)) (LF (.k (.int .i64 0))) (LF (.h 42))) ::
  (10042,.fb 42 false) ::
  (1000080,.bin .eql 33 (LF (.h 28)) (LF (.k (.int .i64 0))) (LF (.h 43))) ::
  (10043,.fb 43 true) ::
  (1000083,.call ⟨22,[.o (.c (.h 27))],[],.o (.c (.h 44)),[]⟩) ::
  (1000084,.un .not (LF (.h 44)) (LF (.h 45))) ::
  (10045,.fb 45 false) ::
  (1000089,.bin .eql 33 (LF (.h 30)) (LF (.k (.int .i64 0))) (LF (.h 46))) ::
  (10046,.fb 46 true) ::
  (1000092,.call ⟨22,[.o (.c (.h 29))],[],.o (.c (.h 47)),[]⟩) ::
  (1000093,.un .not (LF (.h 47)) (LF (.h 48))) ::
  (10048,.fb 48 false) ::
  (1000098,.bin .eql 3 (LF (.h 33)) (LF (.k (.int .i64 3))) (LF (.h 49))) ::
  (10049,.fb 49 false) ::
  (1000100,.bin .eql 3 (LF (.h 33)) (LF (.k (.int .i64 4))) (LF (.h 50))) ::
  (10050,.fb 50 false) ::
  (1000102,.bin .eql 3 (LF (.h 33)) (LF (.k (.int .i64 5))) (LF (.h 51))) ::
  (10051,.fb 51 true) ::
  (1000106,.bin .mul 3 (LF (.h 27)) (LF (.h 29)) (LF (.h 52))) ::
  (1000109,.bin .neq 33 (LF (.h 28)) (LF (.k (.int .i64 0))) (LF (.h 53))) ::
  (10053,.fb 53 false) ::
  (1000112,.bin .neq 33 (LF (.h 30)) (LF (.k (.int .i64 0))) (LF (.h 54))) ::
  (10054,.fb 54 false) ::
  (1000116,.call ⟨22,[.o (.c (.h 52))],[],.o (.c (.h 55)),[]⟩) ::
  (1000117,.un .not (LF (.h 55)) (LF (.h 56))) ::
  (10056,.fb 56 true) ::
  (1000122,.bin .eql 33 (LF (.h 38)) (LF (.k (.int .i64 3))) (LF (.h 57))) ::
  (10057,.fb 57 true) ::
  (1000126,.bin .eql 3 (LF (.h 37)) (LF (.k (.int .i64 0))) (LF (.h 58)))::[]:List (Nat×Ent))) (k:=⟨5,[.o (.g [.h 0,.h 1,.h 2,.h 3,.h 4,.h 5,.h 6]),.o (.g [.h 7,.h 8,.h 9,.h 10,.h 11,.h 12,.h 13]),.o (.c (.h 14)),.o (.c (.h 15))],[],.o (.c (.h 58)),[]⟩) ⟨[],[⟨1000002,[.gn 9],[],[]⟩,⟨2,.gl 5 3 1 2::[31].map (fun s=>.sl s (.o (.c (.gr 5)))),[31].map (fun s=>.sl s (.o (.c (.h 19)))),[5]⟩],0⟩ [] 0 (zi ⟨(ze zf),zb rfl,zb rfl,zb rfl,zb rfl,zb rfl,zb rfl,(ze zf),zb rfl,zb rfl,zb rfl,zb rfl,zb rfl,zb rfl,(ze zf),zb rfl,zb rfl,zb rfl,(ze zf),(ze zf),(ze zf),zb rfl,zb rfl,(ze (zh rfl)),zb rfl,zb rfl,(ze (zh rfl)),zb rfl,zb rfl,zb rfl,zb rfl,zb rfl,zb rfl,zb rfl,zb rfl,zb rfl,(ze (zh rfl)),zb rfl,zb rfl,zb rfl,zb rfl,zb rfl,zb rfl,zb rfl,zb rfl,zb rfl,zb rfl,zb rfl,zb rfl,zb rfl,zb rfl,zb rfl,zb rfl,zb rfl,zb rfl,zb rfl,zb rfl,zb rfl,zb rfl,trivial⟩ ⟨(zk zf),(zk zf),(zk zf),trivial⟩) ⟨zg (zH hL) rfl rfl rfl rfl,
  e_glt (c:=cI) (l:=([]:List Int)) rfl rfl (fun _ _ _ h=>h) rfl zf (by decide),
  zm (E:=3) (by kernel_rfl) (zd rfl) (za (by rw [← e1];rfl)),
  e_op2 (za rfl) zc (za rfl) (fun W=>by rw [← e2];exact zK W),
  zw (E:=3) (z:=1) (fun _=>rfl) (by kernel_rfl) (by kernel_rfl) (zd rfl) (za rfl) s4 s6 (zd (by rw [e5];rfl)),
  qi (c:=cI) zf (fun _=>rfl) rfl (by rw [e7];rfl) rfl s8,
  qj (c:=cI) (l2:=([(1:Int),(2:Int),(3:Int)]:List Int)) zf (fun _=>rfl) rfl (by rw [e9];rfl) rfl (fun _ _ _ h=>h) rfl rfl s10,
  zw (E:=3) (z:=1) (fun _=>rfl) (by kernel_rfl) (by kernel_rfl) (zd rfl) zc s12 s14 (zd (by rw [e13];rfl)),
  zg (zE c (3:Int) v15 e15 s16 s17) rfl rfl rfl rfl,
  zg (zE d (3:Int) v18 e18 s19 s20) rfl rfl rfl rfl,
  zg (zr v15 v13 v21 v22 e21 e22 s23) rfl rfl rfl rfl,
  zg (zr v18 v13 v24 v25 e24 e25 s26) rfl rfl rfl rfl,
  e_op1 (za rfl) (za rfl) (fun W=>by rw [← e27];exact r_cvi (by kernel_rfl) (by kernel_rfl) W),
  e_bin (za rfl) zc (za rfl) (r_ar ((zU (by decide)).trans (congrArg some e28))),
  e_bin zc (za rfl) (za rfl) (r_ar (congrArg some e29)),
  zg (x_opL v29 v15 v18 v30 e30) rfl rfl rfl rfl,
  zg (zr v30 v13 v31 v32 e31 e32 s33) rfl rfl rfl rfl,
  zg (zS v30 (30:Int) v34 e34 s35 s36) rfl rfl rfl rfl,
  e_bin (za rfl) zc (za rfl) (r_cmp (congrArg some e37)),
  e_fb (show pV (.bool v37)=_ by rw [h38]),
  e_bin (za rfl) zc (za rfl) (r_cmp (congrArg some e39)),
  e_fb (show pV (.bool v39)=_ by rw [h40]),
  e_bin (za rfl) zc (za rfl) (r_cmp (congrArg some e41)),
  e_fb (show pV (.bool v41)=_ by rw [h42]),
  e_bin (za rfl) zc (za rfl) (r_cmp (congrArg some e43)),
  e_fb (show pV (.bool v43)=_ by rw [h44]),
  zg (zy v21 v45 e45) rfl rfl rfl rfl,
  e_un (za rfl) (za rfl) (fun W=>by rw [← e46];exact r_not W),
  e_fb (show pV (.bool v46)=_ by rw [h47]),
  e_bin (za rfl) zc (za rfl) (r_cmp (congrArg some e48)),
  e_fb (show pV (.bool v48)=_ by rw [h49]),
  zg (zy v24 v50 e50) rfl rfl rfl rfl,
  e_un (za rfl) (za rfl) (fun W=>by rw [← e51];exact r_not W),
  e_fb (show pV (.bool v51)=_ by rw [h52]),
  e_bin (za rfl) zc (za rfl) (r_cmp (congrArg some e53)),
  e_fb (show pV (.bool v53)=_ by rw [h54]),
  e_bin (za rfl) zc (za rfl) (r_cmp (congrArg some e55)),
  e_fb (show pV (.bool v55)=_ by rw [h56]),
  e_bin (za rfl) zc (za rfl) (r_cmp (congrArg some e57)),
  e_fb (show pV (.bool v57)=_ by rw [h58]),
  e_bin (za rfl) (za rfl) (za rfl) (r_ar (congrArg some e59)),
  e_bin (za rfl) zc (za rfl) (r_cmp (congrArg some e60)),
  e_fb (show pV (.bool v60)=_ by rw [h61]),
  e_bin (za rfl) zc (za rfl) (r_cmp (congrArg some e62)),
  e_fb (show pV (.bool v62)=_ by rw [h63]),
  zg (zy v59 v64 e64) rfl rfl rfl rfl,
  e_un (za rfl) (za rfl) (fun W=>by rw [← e65];exact r_not W),
  e_fb (show pV (.bool v65)=_ by rw [h66]),
  e_bin (za rfl) zc (za rfl) (r_cmp (congrArg some e67)),
  e_fb (show pV (.bool v67)=_ by rw [h68]),
  e_bin (za rfl) zc (za rfl) (r_cmp (congrArg some e69)),
  trivial⟩ mixed ⟨zR,zD (c:=cI) (fun _=>rfl) (by decide) zf rfl rfl,trivial⟩ (fun _ _ _ _ _ hs=>by cases hs) (by kernel_rfl)) rfl rfl rfl rfl
theorem zgC {w0:World} (c:(List Int)) (c0:Int) (c1:Int) (c2:Int) (c3:Int) (c4:Int) (c5:Int) (d:(List Int)) (d0:Int) (d1:Int) (d2:Int) (d3:Int) (d4:Int) (d5:Int) (x:(List Int)) (z:Int) (hL:LibT w0) (v1:Int) (v2:Int) (n3:Nat) (v5:(List Int)) (v7:(List Int)) (v9:(List Int)) (n11:Nat) (v13:(List Int)) (v15:Xp) (v18:Xp) (v21:Int) (v22:Int) (v24:Int) (v25:Int) (v27:Int) (v28:Int) (v29:Int) (v30:Xp) (v31:Int) (v32:Int) (v34:Int) (v37:Bool) (v39:Bool) (v41:Bool) (v43:Bool) (v45:Bool) (v46:Bool) (v48:Bool) (v50:Bool) (v51:Bool) (v53:Bool) (v55:Bool) (v57:Bool) (v59:Bool) (v61:Int) (v62:Bool) (v64:Bool) (v66:Bool) (v67:Bool) (v69:Bool) (v71:Bool) (e1:((x.length:Int))=v1) (e2:((if (3:Int)<v1 then (3:Int) else v1))=v2) (e5:(x.take n3)=v5) (e7:(([]:List Int)++v5)=v7) (e9:(v7++([(1:Int),(2:Int),(3:Int)]:List Int))=v9) (e13:(v9.take n11)=v13) (e15:(madE c)=v15) (e18:(madE d)=v18) (e21:((evalE v15 v13).1)=v21) (e22:((evalE v15 v13).2)=v22) (e24:((evalE v18 v13).1)=v24) (e25:((evalE v18 v13).2)=v25) (e27:(IntKind.i64.wrap z)=v27) (e28:((v27:Int).tmod (5:Int))=v28) (e29:(IntKind.i64.wrap ((3:Int)+v28))=v29) (e30:((Xp.mk v29 0 [v15,v18]))=v30) (e31:((evalE v30 v13).1)=v31) (e32:((evalE v30 v13).2)=v32) (e34:(sizeX v30 (30:Int))=v34) (e37:(decide (v34 > (30:Int)))=v37) (e39:((v22 != (0:Int)))=v39) (e41:((v25 != (0:Int)))=v41) (e43:((v22 == (0:Int)))=v43) (e45:(valB v21)=v45) (e46:(!v45)=v46) (e48:((v25 == (0:Int)))=v48) (e50:(valB v24)=v50) (e51:(!v50)=v51) (e53:((v29 == (3:Int)))=v53) (e55:((v29 == (4:Int)))=v55) (e57:((v29 == (5:Int)))=v57) (e59:((v29 == (6:Int)))=v59) (e61:((if v24<v21 then v24 else v21))=v61) (e62:((v22 != (0:Int)))=v62) (e64:((v25 != (0:Int)))=v64) (e66:(valB v61)=v66) (e67:(!v66)=v67) (e69:((v32 == (0:Int)))=v69) (e71:((v31 == v61))=v71) (s4:v2=(n3:Int)) (s6:n3≤x.length) (s8:(([]:List Int).length+v5.length)*1≤1099511627776) (s10:(v7.length+([(1:Int),(2:Int),(3:Int)]:List Int).length)*1≤1099511627776) (s12:(3:Int)=(n11:Int)) (s14:n11≤v9.length) (s16:(3:Int)=3) (s17:c.length<9223372036854775807) (s19:(3:Int)=3) (s20:d.length<9223372036854775807) (s23:nodes v15≤1000000) (s26:nodes v18≤1000000) (s33:nodes v30≤1000000) (s35:nodes v30≤1000000) (s36:0≤(30:Int)∧(30:Int)≤1000) (h38:v37=false) (h40:v39=false) (h42:v41=false) (h44:v43=true) (h47:v46=false) (h49:v48=true) (h52:v51=false) (h54:v53=false) (h56:v55=false) (h58:v57=false) (h60:v59=true) (h63:v62=false) (h65:v64=false) (h68:v67=false) (h70:v69=true):Fun (KN w0) Tryd.prog 5 [.o (.g [pLs cI c,pI c0,pI c1,pI c2,pI c3,pI c4,pI c5]),.o (.g [pLs cI d,pI d0,pI d1,pI d2,pI d3,pI d4,pI d5]),.o (.c (pLs cI x)),.o (.c (pV (.int .u8 z)))] (.o (.c (pB v71))):=
 zj (zA (F:=FL [pLs cI c,pI c0,pI c1,pI c2,pI c3,pI c4,pI c5,pLs cI d,pI d0,pI d1,pI d2,pI d3,pI d4,pI d5,pLs cI x,pV (.int .u8 z),pI v1,pI v2,pLs cI v5,pLs cI v9,pLs cI v13,pI v15.op,pI v15.n,pLs cE v15.l,pI v18.op,pI v18.n,pLs cE v18.l,pI v21,pI v22,pI v24,pI v25,pI v27,pI v28,pI v29,pI v30.op,pI v30.n,pLs cE v30.l,pI v31,pI v32,pI v34,pB v37,pB v39,pB v41,pB v43,pB v45,pB v46,pB v48,pB v50,pB v51,pB v53,pB v55,pB v57,pB v59,pI v61,pB v62,pB v64,pB v66,pB v67,pB v69,pB v71] [pG cI ([]:List Int),pG cI v7,pG cI v9]) (C:=((1000003,.call ⟨8,[],[],.o (.c (.k (.bool true))),[]⟩) ::
  (1000005,.glt 3 1 [] 0) ::
  (1000008,.op (.len [22] 3) [LF (.h 14)] [] (LF (.h 16))) ::
  (1000009,.op (.min [3,3] 3) [LF (.h 16),LF (.k (.int .i64 3))] [] (LF (.h 17))) ::
  (1000010,.op (.sc 22 false true false) [LF (.h 14),LF (.h 17)] [] (LF (.h 18))) ::
  (1000011,.app 3 1 5 0 1 (.o (.c (.h 18))) [] false) ::
  (1000013,.app 3 1 5 1 2 (.o (.c (.s 12 0 3 3))) [.bx 12 3 [.k (.int .i64 1),.k (.int .i64 2),.k (.int .i64 3)]] false) ::
  (1000014,.op (.sc 22 false true false) [LF (.h 19),LF (.k (.int .i64 3))] [] (LF (.h 20))) ::
  (1000018,.call ⟨19,[.o (.c (.h 0)),.o (.c (.k (.int .i64 3)))],[],.o (.g [.h 21,.h 22,.h 23]),[]⟩) ::
  (1000021,.call ⟨19,[.o (.c (.h 7)),.o (.c (.k (.int .i64 3)))],[],.o (.g [.h 24,.h 25,.h 26]),[]⟩) ::
  (1000028,.call ⟨13,[.o (.g [.h 21,.h 22,.h 23]),.o (.c (.h 20))],[],.t [.c (.h 27),.c (.h 28)],[]⟩) ::
  (1000036,.call ⟨13,[.o (.g [.h 24,.h 25,.h 26]),.o (.c (.h 20))],[],.t [.c (.h 29),.c (.h 30)],[]⟩) ::
  (1000043,.op (.cv 5 3) [LF (.h 15)] [] (LF (.h 31))) ::
  (1000044,.bin .rem 3 (LF (.h 31)) (LF (.k (.int .i64 5))) (LF (.h 32))) ::
  (1000045,.bin .add 3 (LF (.k (.int .i64 3))) (LF (.h 32)) (LF (.h 33))) ::
  (1000050,.call ⟨20,[.o (.c (.h 33)),.o (.g [.h 21,.h 22,.h 23]),.o (.g [.h 24,.h 25,.h 26])],[],.o (.g [.h 34,.h 35,.h 36]),[]⟩) ::
  (1000055,.call ⟨13,[.o (.g [.h 34,.h 35,.h 36]),.o (.c (.h 20))],[],.t [.c (.h 37),.c (.h 38)],[]⟩) ::
  (1000062,.call ⟨21,[.o (.g [.h 34,.h 35,.h 36]),.o (.c (.k (.int .i64 30)))],[],.o (.c (.h 39)),[]⟩) ::
  (1000063,.bin .gtr 3 (LF (.h 39)) (LF (.k (.int .i64 30))) (LF (.h 40))) ::
  (10040,.fb 40 false) ::
  (1000065,.bin .neq 33 (LF (.h 28)) (LF (.k (.int .i64 0))) (LF (.h 41))) ::
  (10041,.fb 41 false) ::
  (1000072,.bin .neq 33 (LF (.h 30)) (LF (.k (.int .i64 0))) (LF (.h 42))) ::
  (10042,.fb 42 false) ::
  (1000080,.bin .eql 33 (LF (.h 28)) (LF (.k (.int .i64 0))) (LF (.h 43))) ::
  (10043,.fb 43 true) ::
  (1000083,.call ⟨22,[.o (.c (.h 27))],[],.o (.c (.h 44)),[]⟩) ::
  (1000084,.un .not (LF (.h 44)) (LF (.h 45))) ::
  (10045,.fb 45 false) ::
  (1000089,.bin .eql 33 (LF (.h 30)) (LF (.k (.int .i64 0))) (LF (.h 46))) ::
  (10046,.fb 46 true) ::
  (1000092,.call ⟨22,[.o (.c (.h 29))],[],.o (.c (.h 47)),[]⟩) ::
  (1000093,.un .not (LF (.h 47)) (LF (.h 48))) ::
  (10048,.fb 48 false) ::
  (1000098,.bin .eql 3 (LF (.h 33)) (LF (.k (.int .i64 3))) (LF (.h 49))) ::
  (10049,.fb 49 false) ::
  (1000100,.bin .eql 3 (LF (.h 33)) (LF (.k (.int .i64 4))) (LF (.h 50))) ::
  (10050,.fb 50 false) ::
  (1000102,.bin .eql 3 (LF (.h 33)) (LF (.k (.int .i64 5))) (LF (.h 51))) ::
  (10051,.fb 51 false) ::
  (1000104,.bin .eql 3 (LF (.h 33)) (LF (.k (.int .i64 6))) (LF (.h 52))) ::
  (10052,.fb 52 true) ::
  (1000108,.op (.min [3,3] 3) [LF (.h 27),LF (.h 29)] [] (LF (.h 53))) ::
  (1000111,.bin .neq 33 (LF (.h 28)) (LF (.k (.int .i64 0))) (LF (.h 54))) ::
  (10054,.fb 54 false) ::
  (1000114,.bin .neq 33 (LF (.h 30)) (LF (.k (.int .i64 0))) (LF (.h 55))) ::
  (10055,.fb 55 false) ::
  (1000118,.call ⟨22,[.o (.c (.h 53))],[],.o (.c (.h 56)),[]⟩) ::
  (1000119,.un .not (LF (.h 56)) (LF (.h 57))) ::
  (10057,.fb 57 false) ::
  (1000124,.bin .eql 33 (LF (.h 38)) (LF (.k (.int .i64 0))) (LF (.h 58))) ::
  (10058,.fb 58 true) ::
  (1000129,.bin .eql 3 (LF (.h 37)) (LF (.h 53)) (LF (.h 59)))::[]:List (Nat×Ent))) (k:=⟨5,[.o (.g [.h 0,.h 1,.h 2,.h 3,.h 4,.h 5,.h 6]),.o (.g [.h 7,.h 8,.h 9,.h 10,.h 11,.h 12,.h 13]),.o (.c (.h 14)),.o (.c (.h 15))],[],.o (.c (.h 59)),[]⟩) ⟨[],[⟨1000002,[.gn 9],[],[]⟩,⟨2,.gl 5 3 1 2::[31].map (fun s=>.sl s (.o (.c (.gr 5)))),[31].map (fun s=>.sl s (.o (.c (.h 19)))),[5]⟩],0⟩ [] 0 (zi ⟨(ze zf),zb rfl,zb rfl,zb rfl,zb rfl,zb rfl,zb rfl,(ze zf),zb rfl,zb rfl,zb rfl,zb rfl,zb rfl,zb rfl,(ze zf),zb rfl,zb rfl,zb rfl,(ze zf),(ze zf),(ze zf),zb rfl,zb rfl,(ze (zh rfl)),zb rfl,zb rfl,(ze (zh rfl)),zb rfl,zb rfl,zb rfl,zb rfl,zb rfl,zb rfl,zb rfl,zb rfl,zb rfl,(ze (zh rfl)),zb rfl,zb rfl,zb rfl,zb rfl,zb rfl,zb rfl,zb rfl,zb rfl,zb rfl,zb rfl,zb rfl,zb rfl,zb rfl,zb rfl,zb rfl,zb rfl,zb rfl,zb rfl,zb rfl,zb rfl,zb rfl,zb rfl,zb rfl,trivial⟩ ⟨(zk zf),(zk zf),(zk zf),trivial⟩) ⟨zg (zH hL) rfl rfl rfl rfl,
  e_glt (c:=cI) (l:=([]:List Int)) rfl rfl (fun _ _ _ h=>h) rfl zf (by decide),
  zm (E:=3) (by kernel_rfl) (zd rfl) (za (by rw [← e1];rfl)),
  e_op2 (za rfl) zc (za rfl) (fun W=>by rw [← e2];exact zK W),
  zw (E:=3) (z:=1) (fun _=>rfl) (by kernel_rfl) (by kernel_rfl) (zd rfl) (za rfl) s4 s6 (zd (by rw [e5];rfl)),
  qi (c:=cI) zf (fun _=>rfl) rfl (by rw [e7];rfl) rfl s8,
  qj (c:=cI) (l2:=([(1:Int),(2:Int),(3:Int)]:List Int)) zf (fun _=>rfl) rfl (by rw [e9];rfl) rfl (fun _ _ _ h=>h) rfl rfl s10,
  zw (E:=3) (z:=1) (fun _=>rfl) (by kernel_rfl) (by kernel_rfl) (zd rfl) zc s12 s14 (zd (by rw [e13];rfl)),
  zg (zE c (3:Int) v15 e15 s16 s17) rfl rfl rfl rfl,
  zg (zE d (3:Int) v18 e18 s19 s20) rfl rfl rfl rfl,
  zg (zr v15 v13 v21 v22 e21 e22 s23) rfl rfl rfl rfl,
  zg (zr v18 v13 v24 v25 e24 e25 s26) rfl rfl rfl rfl,
  e_op1 (za rfl) (za rfl) (fun W=>by rw [← e27];exact r_cvi (by kernel_rfl) (by kernel_rfl) W),
  e_bin (za rfl) zc (za rfl) (r_ar ((zU (by decide)).trans (congrArg some e28))),
  e_bin zc (za rfl) (za rfl) (r_ar (congrArg some e29)),
  zg (x_opL v29 v15 v18 v30 e30) rfl rfl rfl rfl,
  zg (zr v30 v13 v31 v32 e31 e32 s33) rfl rfl rfl rfl,
  zg (zS v30 (30:Int) v34 e34 s35 s36) rfl rfl rfl rfl,
  e_bin (za rfl) zc (za rfl) (r_cmp (congrArg some e37)),
  e_fb (show pV (.bool v37)=_ by rw [h38]),
  e_bin (za rfl) zc (za rfl) (r_cmp (congrArg some e39)),
  e_fb (show pV (.bool v39)=_ by rw [h40]),
  e_bin (za rfl) zc (za rfl) (r_cmp (congrArg some e41)),
  e_fb (show pV (.bool v41)=_ by rw [h42]),
  e_bin (za rfl) zc (za rfl) (r_cmp (congrArg some e43)),
  e_fb (show pV (.bool v43)=_ by rw [h44]),
  zg (zy v21 v45 e45) rfl rfl rfl rfl,
  e_un (za rfl) (za rfl) (fun W=>by rw [← e46];exact r_not W),
  e_fb (show pV (.bool v46)=_ by rw [h47]),
  e_bin (za rfl) zc (za rfl) (r_cmp (congrArg some e48)),
  e_fb (show pV (.bool v48)=_ by rw [h49]),
  zg (zy v24 v50 e50) rfl rfl rfl rfl,
  e_un (za rfl) (za rfl) (fun W=>by rw [← e51];exact r_not W),
  e_fb (show pV (.bool v51)=_ by rw [h52]),
  e_bin (za rfl) zc (za rfl) (r_cmp (congrArg some e53)),
  e_fb (show pV (.bool v53)=_ by rw [h54]),
  e_bin (za rfl) zc (za rfl) (r_cmp (congrArg some e55)),
  e_fb (show pV (.bool v55)=_ by rw [h56]),
  e_bin (za rfl) zc (za rfl) (r_cmp (congrArg some e57)),
  e_fb (show pV (.bool v57)=_ by rw [h58]),
  e_bin (za rfl) zc (za rfl) (r_cmp (congrArg some e59)),
  e_fb (show pV (.bool v59)=_ by rw [h60]),
  e_op2 (za rfl) (za rfl) (za rfl) (fun W=>by rw [← e61];exact zK W),
  e_bin (za rfl) zc (za rfl) (r_cmp (congrArg some e62)),
  e_fb (show pV (.bool v62)=_ by rw [h63]),
  e_bin (za rfl) zc (za rfl) (r_cmp (congrArg some e64)),
  e_fb (show pV (.bool v64)=_ by rw [h65]),
  zg (zy v61 v66 e66) rfl rfl rfl rfl,
  e_un (za rfl) (za rfl) (fun W=>by rw [← e67];exact r_not W),
  e_fb (show pV (.bool v67)=_ by rw [h68]),
  e_bin (za rfl) zc (za rfl) (r_cmp (congrArg some e69)),
  e_fb (show pV (.bool v69)=_ by rw [h70]),
  e_bin (za rfl) (za rfl) (za rfl) (r_cmp (congrArg some e71)),
  trivial⟩ mixed ⟨zR,zD (c:=cI) (fun _=>rfl) (by decide) zf rfl rfl,trivial⟩ (fun _ _ _ _ _ hs=>by cases hs) (by kernel_rfl)) rfl rfl rfl rfl
theorem zgD {w0:World} (c:(List Int)) (c0:Int) (c1:Int) (c2:Int) (c3:Int) (c4:Int) (c5:Int) (d:(List Int)) (d0:Int) (d1:Int) (d2:Int) (d3:Int) (d4:Int) (d5:Int) (x:(List Int)) (z:Int) (hL:LibT w0) (v1:Int) (v2:Int) (n3:Nat) (v5:(List Int)) (v7:(List Int)) (v9:(List Int)) (n11:Nat) (v13:(List Int)) (v15:Xp) (v18:Xp) (v21:Int) (v22:Int) (v24:Int) (v25:Int) (v27:Int) (v28:Int) (v29:Int) (v30:Xp) (v31:Int) (v32:Int) (v34:Int) (v37:Bool) (v39:Bool) (v41:Bool) (v43:Bool) (v45:Bool) (v46:Bool) (v48:Bool) (v50:Bool) (v51:Bool) (v53:Bool) (v55:Bool) (v57:Bool) (v59:Bool) (v61:Int) (v62:Bool) (v64:Bool) (v66:Bool) (v67:Bool) (v69:Bool) (v71:Bool) (e1:((x.length:Int))=v1) (e2:((if (3:Int)<v1 then (3:Int) else v1))=v2) (e5:(x.take n3)=v5) (e7:(([]:List Int)++v5)=v7) (e9:(v7++([(1:Int),(2:Int),(3:Int)]:List Int))=v9) (e13:(v9.take n11)=v13) (e15:(madE c)=v15) (e18:(madE d)=v18) (e21:((evalE v15 v13).1)=v21) (e22:((evalE v15 v13).2)=v22) (e24:((evalE v18 v13).1)=v24) (e25:((evalE v18 v13).2)=v25) (e27:(IntKind.i64.wrap z)=v27) (e28:((v27:Int).tmod (5:Int))=v28) (e29:(IntKind.i64.wrap ((3:Int)+v28))=v29) (e30:((Xp.mk v29 0 [v15,v18]))=v30) (e31:((evalE v30 v13).1)=v31) (e32:((evalE v30 v13).2)=v32) (e34:(sizeX v30 (30:Int))=v34) (e37:(decide (v34 > (30:Int)))=v37) (e39:((v22 != (0:Int)))=v39) (e41:((v25 != (0:Int)))=v41) (e43:((v22 == (0:Int)))=v43) (e45:(valB v21)=v45) (e46:(!v45)=v46) (e48:((v25 == (0:Int)))=v48) (e50:(valB v24)=v50) (e51:(!v50)=v51) (e53:((v29 == (3:Int)))=v53) (e55:((v29 == (4:Int)))=v55) (e57:((v29 == (5:Int)))=v57) (e59:((v29 == (6:Int)))=v59) (e61:((if v24<v21 then v24 else v21))=v61) (e62:((v22 != (0:Int)))=v62) (e64:((v25 != (0:Int)))=v64) (e66:(valB v61)=v66) (e67:(!v66)=v67) (e69:((v32 == (3:Int)))=v69) (e71:((v31 == (0:Int)))=v71) (s4:v2=(n3:Int)) (s6:n3≤x.length) (s8:(([]:List Int).length+v5.length)*1≤1099511627776) (s10:(v7.length+([(1:Int),(2:Int),(3:Int)]:List Int).length)*1≤1099511627776) (s12:(3:Int)=(n11:Int)) (s14:n11≤v9.length) (s16:(3:Int)=3) (s17:c.length<9223372036854775807) (s19:(3:Int)=3) (s20:d.length<9223372036854775807) (s23:nodes v15≤1000000) (s26:nodes v18≤1000000) (s33:nodes v30≤1000000) (s35:nodes v30≤1000000) (s36:0≤(30:Int)∧(30:Int)≤1000) (h38:v37=false) (h40:v39=false) (h42:v41=false) (h44:v43=true) (h47:v46=false) (h49:v48=true) (h52:v51=false) (h54:v53=false) (h56:v55=false) (h58:v57=false) (h60:v59=true) (h63:v62=false) (h65:v64=false) (h68:v67=true) (h70:v69=true):Fun (KN w0) Tryd.prog 5 [.o (.g [pLs cI c,pI c0,pI c1,pI c2,pI c3,pI c4,pI c5]),.o (.g [pLs cI d,pI d0,pI d1,pI d2,pI d3,pI d4,pI d5]),.o (.c (pLs cI x)),.o (.c (pV (.int .u8 z)))] (.o (.c (pB v71))):=
 zj (zA (F:=FL [pLs cI c,pI c0,pI c1,pI c2,pI c3,pI c4,pI c5,pLs cI d,pI d0,pI d1,pI d2,pI d3,pI d4,pI d5,pLs cI x,pV (.int .u8 z),pI v1,pI v2,pLs cI v5,pLs cI v9,pLs cI v13,pI v15.op,pI v15.n,pLs cE v15.l,pI v18.op,pI v18.n,pLs cE v18.l,pI v21,pI v22,pI v24,pI v25,pI v27,pI v28,pI v29,pI v30.op,pI v30.n,pLs cE v30.l,pI v31,pI v32,pI v34,pB v37,pB v39,pB v41,pB v43,pB v45,pB v46,pB v48,pB v50,pB v51,pB v53,pB v55,pB v57,pB v59,pI v61,pB v62,pB v64,pB v66,pB v67,pB v69,pB v71] [pG cI ([]:List Int),pG cI v7,pG cI v9]) (C:=((1000003,.call ⟨8,[],[],.o (.c (.k (.bool true))),[]⟩) ::
  (1000005,.glt 3 1 [] 0) ::
  (1000008,.op (.len [22] 3) [LF (.h 14)] [] (LF (.h 16))) ::
  (1000009,.op (.min [3,3] 3) [LF (.h 16),LF (.k (.int .i64 3))] [] (LF (.h 17))) ::
  (1000010,.op (.sc 22 false true false) [LF (.h 14),LF (.h 17)] [] (LF (.h 18))) ::
  (1000011,.app 3 1 5 0 1 (.o (.c (.h 18))) [] false) ::
  (1000013,.app 3 1 5 1 2 (.o (.c (.s 12 0 3 3))) [.bx 12 3 [.k (.int .i64 1),.k (.int .i64 2),.k (.int .i64 3)]] false) ::
  (1000014,.op (.sc 22 false true false) [LF (.h 19),LF (.k (.int .i64 3))] [] (LF (.h 20))) ::
  (1000018,.call ⟨19,[.o (.c (.h 0)),.o (.c (.k (.int .i64 3)))],[],.o (.g [.h 21,.h 22,.h 23]),[]⟩) ::
  (1000021,.call ⟨19,[.o (.c (.h 7)),.o (.c (.k (.int .i64 3)))],[],.o (.g [.h 24,.h 25,.h 26]),[]⟩) ::
  (1000028,.call ⟨13,[.o (.g [.h 21,.h 22,.h 23]),.o (.c (.h 20))],[],.t [.c (.h 27),.c (.h 28)],[]⟩) ::
  (1000036,.call ⟨13,[.o (.g [.h 24,.h 25,.h 26]),.o (.c (.h 20))],[],.t [.c (.h 29),.c (.h 30)],[]⟩) ::
  (1000043,.op (.cv 5 3) [LF (.h 15)] [] (LF (.h 31))) ::
  (1000044,.bin .rem 3 (LF (.h 31)) (LF (.k (.int .i64 5))) (LF (.h 32))) ::
  (1000045,.bin .add 3 (LF (.k (.int .i64 3))) (LF (.h 32)) (LF (.h 33))) ::
  (1000050,.call ⟨20,[.o (.c (.h 33)),.o (.g [.h 21,.h 22,.h 23]),.o (.g [.h 24,.h 25,.h 26])],[],.o (.g [.h 34,.h 35,.h 36]),[]⟩) ::
  (1000055,.call ⟨13,[.o (.g [.h 34,.h 35,.h 36]),.o (.c (.h 20))],[],.t [.c (.h 37),.c (.h 38)],[]⟩) ::
  (1000062,.call ⟨21,[.o (.g [.h 34,.h 35,.h 36]),.o (.c (.k (.int .i64 30)))],[],.o (.c (.h 39)),[]⟩) ::
  (1000063,.bin .gtr 3 (LF (.h 39)) (LF (.k (.int .i64 30))) (LF (.h 40))) ::
  (10040,.fb 40 false) ::
  (1000065,.bin .neq 33 (LF (.h 28)) (LF (.k (.int .i64 0))) (LF (.h 41))) ::
  (10041,.fb 41 false) ::
  (1000072,.bin .neq 33 (LF (.h 30)) (LF (.k (.int .i64 0))) (LF (.h 42))) ::
  (10042,.fb 42 false) ::
  (1000080,.bin .eql 33 (LF (.h 28)) (LF (.k (.int .i64 0))) (LF (.h 43))) ::
  (10043,.fb 43 true) ::
  (1000083,.call ⟨22,[.o (.c (.h 27))],[],.o (.c (.h 44)),[]⟩) ::
  (1000084,.un .not (LF (.h 44)) (LF (.h 45))) ::
  (10045,.fb 45 false) ::
  (1000089,.bin .eql 33 (LF (.h 30)) (LF (.k (.int .i64 0))) (LF (.h 46))) ::
  (10046,.fb 46 true) ::
  (1000092,.call ⟨22,[.o (.c (.h 29))],[],.o (.c (.h 47)),[]⟩) ::
  (1000093,.un .not (LF (.h 47)) (LF (.h 48))) ::
  (10048,.fb 48 false) ::
  (1000098,.bin .eql 3 (LF (.h 33)) (LF (.k (.int .i64 3))) (LF (.h 49))) ::
  (10049,.fb 49 false) ::
  (1000100,.bin .eql 3 (LF (.h 33)) (LF (.k (.int .i64 4))) (LF (.h 50))) ::
  (10050,.fb 50 false) ::
  (1000102,.bin .eql 3 (LF (.h 33)) (LF (.k (.int .i64 5))) (LF (.h 51))) ::
  (10051,.fb 51 false) ::
  (1000104,.bin .eql 3 (LF (.h 33)) (LF (.k (.int .i64 6))) (LF (.h 52))) ::
  (10052,.fb 52 true) ::
  (1000108,.op (.min [3,3] 3) [LF (.h 27),LF (.h 29)] [] (LF (.h 53))) ::
  (1000111,.bin .neq 33 (LF (.h 28)) (LF (.k (.int .i64 0))) (LF (.h 54))) ::
  (10054,.fb 54 false) ::
  (1000114,.bin .neq 33 (LF (.h 30)) (LF (.k (.int .i64 0))) (LF (.h 55))) ::
  (10055,.fb 55 false) ::
  (1000118,.call ⟨22,[.o (.c (.h 53))],[],.o (.c (.h 56)),[]⟩) ::
  (1000119,.un .not (LF (.h 56)) (LF (.h 57))) ::
  (10057,.fb 57 true) ::
  (1000124,.bin .eql 33 (LF (.h 38)) (LF (.k (.int .i64 3))) (LF (.h 58))) ::
  (10058,.fb 58 true) ::
  (1000128,.bin .eql 3 (LF (.h 37)) (LF (.k (.int .i64 0))) (LF (.h 59)))::[]:List (Nat×Ent))) (k:=⟨5,[.o (.g [.h 0,.h 1,.h 2,.h 3,.h 4,.h 5,.h 6]),.o (.g [.h 7,.h 8,.h 9,.h 10,.h 11,.h 12,.h 13]),.o (.c (.h 14)),.o (.c (.h 15))],[],.o (.c (.h 59)),[]⟩) ⟨[],[⟨1000002,[.gn 9],[],[]⟩,⟨2,.gl 5 3 1 2::[31].map (fun s=>.sl s (.o (.c (.gr 5)))),[31].map (fun s=>.sl s (.o (.c (.h 19)))),[5]⟩],0⟩ [] 0 (zi ⟨(ze zf),zb rfl,zb rfl,zb rfl,zb rfl,zb rfl,zb rfl,(ze zf),zb rfl,zb rfl,zb rfl,zb rfl,zb rfl,zb rfl,(ze zf),zb rfl,zb rfl,zb rfl,(ze zf),(ze zf),(ze zf),zb rfl,zb rfl,(ze (zh rfl)),zb rfl,zb rfl,(ze (zh rfl)),zb rfl,zb rfl,zb rfl,zb rfl,zb rfl,zb rfl,zb rfl,zb rfl,zb rfl,(ze (zh rfl)),zb rfl,zb rfl,zb rfl,zb rfl,zb rfl,zb rfl,zb rfl,zb rfl,zb rfl,zb rfl,zb rfl,zb rfl,zb rfl,zb rfl,zb rfl,zb rfl,zb rfl,zb rfl,zb rfl,zb rfl,zb rfl,zb rfl,zb rfl,trivial⟩ ⟨(zk zf),(zk zf),(zk zf),trivial⟩) ⟨zg (zH hL) rfl rfl rfl rfl,
  e_glt (c:=cI) (l:=([]:List Int)) rfl rfl (fun _ _ _ h=>h) rfl zf (by decide),
  zm (E:=3) (by kernel_rfl) (zd rfl) (za (by rw [← e1];rfl)),
  e_op2 (za rfl) zc (za rfl) (fun W=>by rw [← e2];exact zK W),
  zw (E:=3) (z:=1) (fun _=>rfl) (by kernel_rfl) (by kernel_rfl) (zd rfl) (za rfl) s4 s6 (zd (by rw [e5];rfl)),
  qi (c:=cI) zf (fun _=>rfl) rfl (by rw [e7];rfl) rfl s8,
  qj (c:=cI) (l2:=([(1:Int),(2:Int),(3:Int)]:List Int)) zf (fun _=>rfl) rfl (by rw [e9];rfl) rfl (fun _ _ _ h=>h) rfl rfl s10,
  zw (E:=3) (z:=1) (fun _=>rfl) (by kernel_rfl) (by kernel_rfl) (zd rfl) zc s12 s14 (zd (by rw [e13];rfl)),
  zg (zE c (3:Int) v15 e15 s16 s17) rfl rfl rfl rfl,
  zg (zE d (3:Int) v18 e18 s19 s20) rfl rfl rfl rfl,
  zg (zr v15 v13 v21 v22 e21 e22 s23) rfl rfl rfl rfl,
  zg (zr v18 v13 v24 v25 e24 e25 s26) rfl rfl rfl rfl,
  e_op1 (za rfl) (za rfl) (fun W=>by rw [← e27];exact r_cvi (by kernel_rfl) (by kernel_rfl) W),
  e_bin (za rfl) zc (za rfl) (r_ar ((zU (by decide)).trans (congrArg some e28))),
  e_bin zc (za rfl) (za rfl) (r_ar (congrArg some e29)),
  zg (x_opL v29 v15 v18 v30 e30) rfl rfl rfl rfl,
  zg (zr v30 v13 v31 v32 e31 e32 s33) rfl rfl rfl rfl,
  zg (zS v30 (30:Int) v34 e34 s35 s36) rfl rfl rfl rfl,
  e_bin (za rfl) zc (za rfl) (r_cmp (congrArg some e37)),
  e_fb (show pV (.bool v37)=_ by rw [h38]),
  e_bin (za rfl) zc (za rfl) (r_cmp (congrArg some e39)),
  e_fb (show pV (.bool v39)=_ by rw [h40]),
  e_bin (za rfl) zc (za rfl) (r_cmp (congrArg some e41)),
  e_fb (show pV (.bool v41)=_ by rw [h42]),
  e_bin (za rfl) zc (za rfl) (r_cmp (congrArg some e43)),
  e_fb (show pV (.bool v43)=_ by rw [h44]),
  zg (zy v21 v45 e45) rfl rfl rfl rfl,
  e_un (za rfl) (za rfl) (fun W=>by rw [← e46];exact r_not W),
  e_fb (show pV (.bool v46)=_ by rw [h47]),
  e_bin (za rfl) zc (za rfl) (r_cmp (congrArg some e48)),
  e_fb (show pV (.bool v48)=_ by rw [h49]),
  zg (zy v24 v50 e50) rfl rfl rfl rfl,
  e_un (za rfl) (za rfl) (fun W=>by rw [← e51];exact r_not W),
  e_fb (show pV (.bool v51)=_ by rw [h52]),
  e_bin (za rfl) zc (za rfl) (r_cmp (congrArg some e53)),
  e_fb (show pV (.bool v53)=_ by rw [h54]),
  e_bin (za rfl) zc (za rfl) (r_cmp (congrArg some e55)),
  e_fb (show pV (.bool v55)=_ by rw [h56]),
  e_bin (za rfl) zc (za rfl) (r_cmp (congrArg some e57)),
  e_fb (show pV (.bool v57)=_ by rw [h58]),
  e_bin (za rfl) zc (za rfl) (r_cmp (congrArg some e59)),
  e_fb (show pV (.bool v59)=_ by rw [h60]),
  e_op2 (za rfl) (za rfl) (za rfl) (fun W=>by rw [← e61];exact zK W),
  e_bin (za rfl) zc (za rfl) (r_cmp (congrArg some e62)),
  e_fb (show pV (.bool v62)=_ by rw [h63]),
  e_bin (za rfl) zc (za rfl) (r_cmp (congrArg some e64)),
  e_fb (show pV (.bool v64)=_ by rw [h65]),
  zg (zy v61 v66 e66) rfl rfl rfl rfl,
  e_un (za rfl) (za rfl) (fun W=>by rw [← e67];exact r_not W),
  e_fb (show pV (.bool v67)=_ by rw [h68]),
  e_bin (za rfl) zc (za rfl) (r_cmp (congrArg some e69)),
  e_fb (show pV (.bool v69)=_ by rw [h70]),
  e_bin (za rfl) zc (za rfl) (r_cmp (congrArg some e71)),
  trivial⟩ mixed ⟨zR,zD (c:=cI) (fun _=>rfl) (by decide) zf rfl rfl,trivial⟩ (fun _ _ _ _ _ hs=>by cases hs) (by kernel_rfl)) rfl rfl rfl rfl
theorem zgE {w0:World} (c:(List Int)) (c0:Int) (c1:Int) (c2:Int) (c3:Int) (c4:Int) (c5:Int) (d:(List Int)) (d0:Int) (d1:Int) (d2:Int) (d3:Int) (d4:Int) (d5:Int) (x:(List Int)) (z:Int) (hL:LibT w0) (v1:Int) (v2:Int) (n3:Nat) (v5:(List Int)) (v7:(List Int)) (v9:(List Int)) (n11:Nat) (v13:(List Int)) (v15:Xp) (v18:Xp) (v21:Int) (v22:Int) (v24:Int) (v25:Int) (v27:Int) (v28:Int) (v29:Int) (v30:Xp) (v31:Int) (v32:Int) (v34:Int) (v37:Bool) (v39:Bool) (v41:Bool) (v43:Bool) (v45:Bool) (v46:Bool) (v48:Bool) (v50:Bool) (v51:Bool) (v53:Bool) (v55:Bool) (v57:Bool) (v59:Bool) (v61:Bool) (v63:Int) (v64:Bool) (v66:Bool) (v68:Bool) (v69:Bool) (v71:Bool) (v73:Bool) (e1:((x.length:Int))=v1) (e2:((if (3:Int)<v1 then (3:Int) else v1))=v2) (e5:(x.take n3)=v5) (e7:(([]:List Int)++v5)=v7) (e9:(v7++([(1:Int),(2:Int),(3:Int)]:List Int))=v9) (e13:(v9.take n11)=v13) (e15:(madE c)=v15) (e18:(madE d)=v18) (e21:((evalE v15 v13).1)=v21) (e22:((evalE v15 v13).2)=v22) (e24:((evalE v18 v13).1)=v24) (e25:((evalE v18 v13).2)=v25) (e27:(IntKind.i64.wrap z)=v27) (e28:((v27:Int).tmod (5:Int))=v28) (e29:(IntKind.i64.wrap ((3:Int)+v28))=v29) (e30:((Xp.mk v29 0 [v15,v18]))=v30) (e31:((evalE v30 v13).1)=v31) (e32:((evalE v30 v13).2)=v32) (e34:(sizeX v30 (30:Int))=v34) (e37:(decide (v34 > (30:Int)))=v37) (e39:((v22 != (0:Int)))=v39) (e41:((v25 != (0:Int)))=v41) (e43:((v22 == (0:Int)))=v43) (e45:(valB v21)=v45) (e46:(!v45)=v46) (e48:((v25 == (0:Int)))=v48) (e50:(valB v24)=v50) (e51:(!v50)=v51) (e53:((v29 == (3:Int)))=v53) (e55:((v29 == (4:Int)))=v55) (e57:((v29 == (5:Int)))=v57) (e59:((v29 == (6:Int)))=v59) (e61:((v29 == (7:Int)))=v61) (e63:((if v24 > v21 then v24 else v21))=v63) (e64:((v22 != (0:Int)))=v64) (e66:((v25 != (0:Int)))=v66) (e68:(valB v63)=v68) (e69:(!v68)=v69) (e71:((v32 == (0:Int)))=v71) (e73:((v31 == v63))=v73) (s4:v2=(n3:Int)) (s6:n3≤x.length) (s8:(([]:List Int).length+v5.length)*1≤1099511627776) (s10:(v7.length+([(1:Int),(2:Int),(3:Int)]:List Int).length)*1≤1099511627776) (s12:(3:Int)=(n11:Int)) (s14:n11≤v9.length) (s16:(3:Int)=3) (s17:c.length<9223372036854775807) (s19:(3:Int)=3) (s20:d.length<9223372036854775807) (s23:nodes v15≤1000000) (s26:nodes v18≤1000000) (s33:nodes v30≤1000000) (s35:nodes v30≤1000000) (s36:0≤(30:Int)∧(30:Int)≤1000) (h38:v37=false) (h40:v39=false) (h42:v41=false) (h44:v43=true) (h47:v46=false) (h49:v48=true) (h52:v51=false) (h54:v53=false) (h56:v55=false) (h58:v57=false) (h60:v59=false) (h62:v61=true) (h65:v64=false) (h67:v66=false) (h70:v69=false) (h72:v71=true):Fun (KN w0) Tryd.prog 5 [.o (.g [pLs cI c,pI c0,pI c1,pI c2,pI c3,pI c4,pI c5]),.o (.g [pLs cI d,pI d0,pI d1,pI d2,pI d3,pI d4,pI d5]),.o (.c (pLs cI x)),.o (.c (pV (.int .u8 z)))] (.o (.c (pB v73))):=
 zj (zA (F:=FL (pLs cI c::pI c0::pI c1::pI c2::pI c3::pI c4::pI c5::pLs cI d::pI d0::pI d1::pI d2::pI d3::pI d4::pI d5::pLs cI x::pV (.int .u8 z)::pI v1::pI v2::pLs cI v5::pLs cI v9::pLs cI v13::pI v15.op::pI v15.n::pLs cE v15.l::pI v18.op::pI v18.n::pLs cE v18.l::pI v21::pI v22::pI v24::pI v25::pI v27::pI v28::pI v29::pI v30.op::pI v30.n::pLs cE v30.l::pI v31::pI v32::pI v34::pB v37::pB v39::pB v41::pB v43::pB v45::pB v46::pB v48::pB v50::pB v51::pB v53::pB v55::pB v57::pB v59::pB v61::pI v63::pB v64::pB v66::pB v68::pB v69::pB v71::pB v73::[]) [pG cI ([]:List Int),pG cI v7,pG cI v9]) (C:=((1000003,.call ⟨8,[],[],.o (.c (.k (.bool true))),[]⟩) ::
  (1000005,.glt 3 1 [] 0) ::
  (1000008,.op (.len [22] 3) [LF (.h 14)] [] (LF (.h 16))) ::
  (1000009,.op (.min [3,3] 3) [LF (.h 16),LF (.k (.int .i64 3))] [] (LF (.h 17))) ::
  (1000010,.op (.sc 22 false true false) [LF (.h 14),LF (.h 17)] [] (LF (.h 18))) ::
  (1000011,.app 3 1 5 0 1 (.o (.c (.h 18))) [] false) ::
  (1000013,.app 3 1 5 1 2 (.o (.c (.s 12 0 3 3))) [.bx 12 3 [.k (.int .i64 1),.k (.int .i64 2),.k (.int .i64 3)]] false) ::
  (1000014,.op (.sc 22 false true false) [LF (.h 19),LF (.k (.int .i64 3))] [] (LF (.h 20))) ::
  (1000018,.call ⟨19,[.o (.c (.h 0)),.o (.c (.k (.int .i64 3)))],[],.o (.g [.h 21,.h 22,.h 23]),[]⟩) ::
  (1000021,.call ⟨19,[.o (.c (.h 7)),.o (.c (.k (.int .i64 3)))],[],.o (.g [.h 24,.h 25,.h 26]),[]⟩) ::
  (1000028,.call ⟨13,[.o (.g [.h 21,.h 22,.h 23]),.o (.c (.h 20))],[],.t [.c (.h 27),.c (.h 28)],[]⟩) ::
  (1000036,.call ⟨13,[.o (.g [.h 24,.h 25,.h 26]),.o (.c (.h 20))],[],.t [.c (.h 29),.c (.h 30)],[]⟩) ::
  (1000043,.op (.cv 5 3) [LF (.h 15)] [] (LF (.h 31))) ::
  (1000044,.bin .rem 3 (LF (.h 31)) (LF (.k (.int .i64 5))) (LF (.h 32))) ::
  (1000045,.bin .add 3 (LF (.k (.int .i64 3))) (LF (.h 32)) (LF (.h 33))) ::
  (1000050,.call ⟨20,[.o (.c (.h 33)),.o (.g [.h 21,.h 22,.h 23]),.o (.g [.h 24,.h 25,.h 26])],[],.o (.g [.h 34,.h 35,.h 36]),[]⟩) ::
  (1000055,.call ⟨13,[.o (.g [.h 34,.h 35,.h 36]),.o (.c (.h 20))],[],.t [.c (.h 37),.c (.h 38)],[]⟩) ::
  (1000062,.call ⟨21,[.o (.g [.h 34,.h 35,.h 36]),.o (.c (.k (.int .i64 30)))],[],.o (.c (.h 39)),[]⟩) ::
  (1000063,.bin .gtr 3 (LF (.h 39)) (LF (.k (.int .i64 30))) (LF (.h 40))) ::
  (10040,.fb 40 false) ::
  (1000065,.bin .neq 33 (LF (.h 28)) (LF (.k (.int .i64 0))) (LF (.h 41))) ::
  (10041,.fb 41 false) ::
  (1000072,.bin .neq 33 (LF (.h 30)) (LF (.k (.int .i64 0))) (LF (.h 42))) ::
  (10042,.fb 42 false) ::
  (1000080,.bin .eql 33 (LF (.h 28)) (LF (.k (.int .i64 0))) (LF (.h 43))) ::
  (10043,.fb 43 true) ::
  (1000083,.call ⟨22,[.o (.c (.h 27))],[],.o (.c (.h 44)),[]⟩) ::
  (1000084,.un .not (LF (.h 44)) (LF (.h 45))) ::
  (10045,.fb 45 false) ::
  (1000089,.bin .eql 33 (LF (.h 30)) (LF (.k (.int .i64 0))) (LF (.h 46))) ::
  (10046,.fb 46 true) ::
  (1000092,.call ⟨22,[.o (.c (.h 29))],[],.o (.c (.h 47)),[]⟩) ::
  (1000093,.un .not (LF (.h 47)) (LF (.h 48))) ::
  (10048,.fb 48 false) ::
  (1000098,.bin .eql 3 (LF (.h 33)) (LF (.k (.int .i64 3))) (LF (.h 49))) ::
  (10049,.fb 49 false) ::
  (1000100,.bin .eql 3 (LF (.h 33)) (LF (.k (.int .i64 4))) (LF (.h 50))) ::
  (10050,.fb 50 false) ::
  (1000102,.bin .eql 3 (LF (.h 33)) (LF (.k (.int .i64 5))) (LF (.h 51))) ::
  (10051,.fb 51 false) ::
  (1000104,.bin .eql 3 (LF (.h 33)) (LF (.k (.int .i64 6))) (LF (.h 52))) ::
  (10052,.fb 52 false) ::
  (1000106,.bin .eql 3 (LF (.h 33)) (LF (.k (.int .i64 7))) (LF (.h 53))) ::
  (10053,.fb 53 true) ::
  (1000110,.op (.max [3,3] 3) [LF (.h 27),LF (.h 29)] [] (LF (.h 54))) ::
  (1000113,.bin .neq 33 (LF (.h 28)) (LF (.k (.int .i64 0))) (LF (.h 55))) ::
  (10055,.fb 55 false) ::
  (1000116,.bin .neq 33 (LF (.h 30)) (LF (.k (.int .i64 0))) (LF (.h 56))) ::
  (10056,.fb 56 false) ::
  (1000120,.call ⟨22,[.o (.c (.h 54))],[],.o (.c (.h 57)),[]⟩) ::
  (1000121,.un .not (LF (.h 57)) (LF (.h 58))) ::
  (10058,.fb 58 false) ::
  (1000126,.bin .eql 33 (LF (.h 38)) (LF (.k (.int .i64 0))) (LF (.h 59))) ::
  (10059,.fb 59 true) ::
  (1000131,.bin .eql 3 (LF (.h 37)) (LF (.h 54)) (LF (.h 60)))::[]:List (Nat×Ent))) (k:=⟨5,[.o (.g [.h 0,.h 1,.h 2,.h 3,.h 4,.h 5,.h 6]),.o (.g [.h 7,.h 8,.h 9,.h 10,.h 11,.h 12,.h 13]),.o (.c (.h 14)),.o (.c (.h 15))],[],.o (.c (.h 60)),[]⟩) ⟨[],[⟨1000002,[.gn 9],[],[]⟩,⟨2,.gl 5 3 1 2::[31].map (fun s=>.sl s (.o (.c (.gr 5)))),[31].map (fun s=>.sl s (.o (.c (.h 19)))),[5]⟩],0⟩ [] 0 (zi ⟨(ze zf),zb rfl,zb rfl,zb rfl,zb rfl,zb rfl,zb rfl,(ze zf),zb rfl,zb rfl,zb rfl,zb rfl,zb rfl,zb rfl,(ze zf),zb rfl,zb rfl,zb rfl,(ze zf),(ze zf),(ze zf),zb rfl,zb rfl,(ze (zh rfl)),zb rfl,zb rfl,(ze (zh rfl)),zb rfl,zb rfl,zb rfl,zb rfl,zb rfl,zb rfl,zb rfl,zb rfl,zb rfl,(ze (zh rfl)),zb rfl,zb rfl,zb rfl,zb rfl,zb rfl,zb rfl,zb rfl,zb rfl,zb rfl,zb rfl,zb rfl,zb rfl,zb rfl,zb rfl,zb rfl,zb rfl,zb rfl,zb rfl,zb rfl,zb rfl,zb rfl,zb rfl,zb rfl,zb rfl,trivial⟩ ⟨(zk zf),(zk zf),(zk zf),trivial⟩) ⟨zg (zH hL) rfl rfl rfl rfl,
  e_glt (c:=cI) (l:=([]:List Int)) rfl rfl (fun _ _ _ h=>h) rfl zf (by decide),
  zm (E:=3) (by kernel_rfl) (zd rfl) (za (by rw [← e1];rfl)),
  e_op2 (za rfl) zc (za rfl) (fun W=>by rw [← e2];exact zK W),
  zw (E:=3) (z:=1) (fun _=>rfl) (by kernel_rfl) (by kernel_rfl) (zd rfl) (za rfl) s4 s6 (zd (by rw [e5];rfl)),
  qi (c:=cI) zf (fun _=>rfl) rfl (by rw [e7];rfl) rfl s8,
  qj (c:=cI) (l2:=([(1:Int),(2:Int),(3:Int)]:List Int)) zf (fun _=>rfl) rfl (by rw [e9];rfl) rfl (fun _ _ _ h=>h) rfl rfl s10,
  zw (E:=3) (z:=1) (fun _=>rfl) (by kernel_rfl) (by kernel_rfl) (zd rfl) zc s12 s14 (zd (by rw [e13];rfl)),
  zg (zE c (3:Int) v15 e15 s16 s17) rfl rfl rfl rfl,
  zg (zE d (3:Int) v18 e18 s19 s20) rfl rfl rfl rfl,
  zg (zr v15 v13 v21 v22 e21 e22 s23) rfl rfl rfl rfl,
  zg (zr v18 v13 v24 v25 e24 e25 s26) rfl rfl rfl rfl,
  e_op1 (za rfl) (za rfl) (fun W=>by rw [← e27];exact r_cvi (by kernel_rfl) (by kernel_rfl) W),
  e_bin (za rfl) zc (za rfl) (r_ar ((zU (by decide)).trans (congrArg some e28))),
  e_bin zc (za rfl) (za rfl) (r_ar (congrArg some e29)),
  zg (x_opL v29 v15 v18 v30 e30) rfl rfl rfl rfl,
  zg (zr v30 v13 v31 v32 e31 e32 s33) rfl rfl rfl rfl,
  zg (zS v30 (30:Int) v34 e34 s35 s36) rfl rfl rfl rfl,
  e_bin (za rfl) zc (za rfl) (r_cmp (congrArg some e37)),
  e_fb (show pV (.bool v37)=_ by rw [h38]),
  e_bin (za rfl) zc (za rfl) (r_cmp (congrArg some e39)),
  e_fb (show pV (.bool v39)=_ by rw [h40]),
  e_bin (za rfl) zc (za rfl) (r_cmp (congrArg some e41)),
  e_fb (show pV (.bool v41)=_ by rw [h42]),
  e_bin (za rfl) zc (za rfl) (r_cmp (congrArg some e43)),
  e_fb (show pV (.bool v43)=_ by rw [h44]),
  zg (zy v21 v45 e45) rfl rfl rfl rfl,
  e_un (za rfl) (za rfl) (fun W=>by rw [← e46];exact r_not W),
  e_fb (show pV (.bool v46)=_ by rw [h47]),
  e_bin (za rfl) zc (za rfl) (r_cmp (congrArg some e48)),
  e_fb (show pV (.bool v48)=_ by rw [h49]),
  zg (zy v24 v50 e50) rfl rfl rfl rfl,
  e_un (za rfl) (za rfl) (fun W=>by rw [← e51];exact r_not W),
  e_fb (show pV (.bool v51)=_ by rw [h52]),
  e_bin (za rfl) zc (za rfl) (r_cmp (congrArg some e53)),
  e_fb (show pV (.bool v53)=_ by rw [h54]),
  e_bin (za rfl) zc (za rfl) (r_cmp (congrArg some e55)),
  e_fb (show pV (.bool v55)=_ by rw [h56]),
  e_bin (za rfl) zc (za rfl) (r_cmp (congrArg some e57)),
  e_fb (show pV (.bool v57)=_ by rw [h58]),
  e_bin (za rfl) zc (za rfl) (r_cmp (congrArg some e59)),
  e_fb (show pV (.bool v59)=_ by rw [h60]),
  e_bin (za rfl) zc (za rfl) (r_cmp (congrArg some e61)),
  e_fb (show pV (.bool v61)=_ by rw [h62]),
  e_op2 (za rfl) (za rfl) (za rfl) (fun W=>by rw [← e63];exact zcS W),
  e_bin (za rfl) zc (za rfl) (r_cmp (congrArg some e64)),
  e_fb (show pV (.bool v64)=_ by rw [h65]),
  e_bin (za rfl) zc (za rfl) (r_cmp (congrArg some e66)),
  e_fb (show pV (.bool v66)=_ by rw [h67]),
  zg (zy v63 v68 e68) rfl rfl rfl rfl,
  e_un (za rfl) (za rfl) (fun W=>by rw [← e69];exact r_not W),
  e_fb (show pV (.bool v69)=_ by rw [h70]),
  e_bin (za rfl) zc (za rfl) (r_cmp (congrArg some e71)),
  e_fb (show pV (.bool v71)=_ by rw [h72]),
  e_bin (za rfl) (za rfl) (za rfl) (r_cmp (congrArg some e73)),
  trivial⟩ mixed ⟨zR,zD (c:=cI) (fun _=>rfl) (by decide) zf rfl rfl,trivial⟩ (fun _ _ _ _ _ hs=>by cases hs) (by kernel_rfl)) rfl rfl rfl rfl
theorem zeZ {w0:World} (c:(List Int)) (c0:Int) (c1:Int) (c2:Int) (c3:Int) (c4:Int) (c5:Int) (d:(List Int)) (d0:Int) (d1:Int) (d2:Int) (d3:Int) (d4:Int) (d5:Int) (x:(List Int)) (z:Int) (hL:LibT w0) (v1:Int) (v2:Int) (n3:Nat) (v5:(List Int)) (v7:(List Int)) (v9:(List Int)) (n11:Nat) (v13:(List Int)) (v15:Xp) (v18:Xp) (v21:Int) (v22:Int) (v24:Int) (v25:Int) (v27:Int) (v28:Int) (v29:Int) (v30:Xp) (v31:Int) (v32:Int) (v34:Int) (v37:Bool) (v39:Bool) (v41:Bool) (v43:Bool) (v45:Bool) (v46:Bool) (v48:Bool) (v50:Bool) (v51:Bool) (v53:Bool) (v55:Bool) (v57:Bool) (v59:Bool) (v61:Bool) (v63:Int) (v64:Bool) (v66:Bool) (v68:Bool) (v69:Bool) (v71:Bool) (v73:Bool) (e1:((x.length:Int))=v1) (e2:((if (3:Int)<v1 then (3:Int) else v1))=v2) (e5:(x.take n3)=v5) (e7:(([]:List Int)++v5)=v7) (e9:(v7++([(1:Int),(2:Int),(3:Int)]:List Int))=v9) (e13:(v9.take n11)=v13) (e15:(madE c)=v15) (e18:(madE d)=v18) (e21:((evalE v15 v13).1)=v21) (e22:((evalE v15 v13).2)=v22) (e24:((evalE v18 v13).1)=v24) (e25:((evalE v18 v13).2)=v25) (e27:(IntKind.i64.wrap z)=v27) (e28:((v27:Int).tmod (5:Int))=v28) (e29:(IntKind.i64.wrap ((3:Int)+v28))=v29) (e30:((Xp.mk v29 0 [v15,v18]))=v30) (e31:((evalE v30 v13).1)=v31) (e32:((evalE v30 v13).2)=v32) (e34:(sizeX v30 (30:Int))=v34) (e37:(decide (v34 > (30:Int)))=v37) (e39:((v22 != (0:Int)))=v39) (e41:((v25 != (0:Int)))=v41) (e43:((v22 == (0:Int)))=v43) (e45:(valB v21)=v45) (e46:(!v45)=v46) (e48:((v25 == (0:Int)))=v48) (e50:(valB v24)=v50) (e51:(!v50)=v51) (e53:((v29 == (3:Int)))=v53) (e55:((v29 == (4:Int)))=v55) (e57:((v29 == (5:Int)))=v57) (e59:((v29 == (6:Int)))=v59) (e61:((v29 == (7:Int)))=v61) (e63:((if v24 > v21 then v24 else v21))=v63) (e64:((v22 != (0:Int)))=v64) (e66:((v25 != (0:Int)))=v66) (e68:(valB v63)=v68) (e69:(!v68)=v69) (e71:((v32 == (3:Int)))=v71) (e73:((v31 == (0:Int)))=v73) (s4:v2=(n3:Int)) (s6:n3≤x.length) (s8:(([]:List Int).length+v5.length)*1≤1099511627776) (s10:(v7.length+([(1:Int),(2:Int),(3:Int)]:List Int).length)*1≤1099511627776) (s12:(3:Int)=(n11:Int)) (s14:n11≤v9.length) (s16:(3:Int)=3) (s17:c.length<9223372036854775807) (s19:(3:Int)=3) (s20:d.length<9223372036854775807) (s23:nodes v15≤1000000) (s26:nodes v18≤1000000) (s33:nodes v30≤1000000) (s35:nodes v30≤1000000) (s36:0≤(30:Int)∧(30:Int)≤1000) (h38:v37=false) (h40:v39=false) (h42:v41=false) (h44:v43=true) (h47:v46=false) (h49:v48=true) (h52:v51=false) (h54:v53=false) (h56:v55=false) (h58:v57=false) (h60:v59=false) (h62:v61=true) (h65:v64=false) (h67:v66=false) (h70:v69=true) (h72:v71=true):Fun (KN w0) Tryd.prog 5 [.o (.g [pLs cI c,pI c0,pI c1,pI c2,pI c3,pI c4,pI c5]),.o (.g [pLs cI d,pI d0,pI d1,pI d2,pI d3,pI d4,pI d5]),.o (.c (pLs cI x)),.o (.c (pV (.int .u8 z)))] (.o (.c (pB v73))):=
 zj (zA (F:=FL (pLs cI c::pI c0::pI c1::pI c2::pI c3::pI c4::pI c5::pLs cI d::pI d0::pI d1::pI d2::pI d3::pI d4::pI d5::pLs cI x::pV (.int .u8 z)::pI v1::pI v2::pLs cI v5::pLs cI v9::pLs cI v13::pI v15.op::pI v15.n::pLs cE v15.l::pI v18.op::pI v18.n::pLs cE v18.l::pI v21::pI v22::pI v24::pI v25::pI v27::pI v28::pI v29::pI v30.op::pI v30.n::pLs cE v30.l::pI v31::pI v32::pI v34::pB v37::pB v39::pB v41::pB v43::pB v45::pB v46::pB v48::pB v50::pB v51::pB v53::pB v55::pB v57::pB v59::pB v61::pI v63::pB v64::pB v66::pB v68::pB v69::pB v71::pB v73::[]) [pG cI ([]:List Int),pG cI v7,pG cI v9]) (C:=((1000003,.call ⟨8,[],[],.o (.c (.k (.bool true))),[]⟩) ::
  (1000005,.glt 3 1 [] 0) ::
  (1000008,.op (.len [22] 3) [LF (.h 14)] [] (LF (.h 16))) ::
  (1000009,.op (.min [3,3] 3) [LF (.h 16),LF (.k (.int .i64 3))] [] (LF (.h 17))) ::
  (1000010,.op (.sc 22 false true false) [LF (.h 14),LF (.h 17)] [] (LF (.h 18))) ::
  (1000011,.app 3 1 5 0 1 (.o (.c (.h 18))) [] false) ::
  (1000013,.app 3 1 5 1 2 (.o (.c (.s 12 0 3 3))) [.bx 12 3 [.k (.int .i64 1),.k (.int .i64 2),.k (.int .i64 3)]] false) ::
  (1000014,.op (.sc 22 false true false) [LF (.h 19),LF (.k (.int .i64 3))] [] (LF (.h 20))) ::
  (1000018,.call ⟨19,[.o (.c (.h 0)),.o (.c (.k (.int .i64 3)))],[],.o (.g [.h 21,.h 22,.h 23]),[]⟩) ::
  (1000021,.call ⟨19,[.o (.c (.h 7)),.o (.c (.k (.int .i64 3)))],[],.o (.g [.h 24,.h 25,.h 26]),[]⟩) ::
  (1000028,.call ⟨13,[.o (.g [.h 21,.h 22,.h 23]),.o (.c (.h 20))],[],.t [.c (.h 27),.c (.h 28)],[]⟩) ::
  (1000036,.call ⟨13,[.o (.g [.h 24,.h 25,.h 26]),.o (.c (.h 20))],[],.t [.c (.h 29),.c (.h 30)],[]⟩) ::
  (1000043,.op (.cv 5 3) [LF (.h 15)] [] (LF (.h 31))) ::
  (1000044,.bin .rem 3 (LF (.h 31)) (LF (.k (.int .i64 5))) (LF (.h 32))) ::
  (1000045,.bin .add 3 (LF (.k (.int .i64 3))) (LF (.h 32)) (LF (.h 33))) ::
  (1000050,.call ⟨20,[.o (.c (.h 33)),.o (.g [.h 21,.h 22,.h 23]),.o (.g [.h 24,.h 25,.h 26])],[],.o (.g [.h 34,.h 35,.h 36]),[]⟩) ::
  (1000055,.call ⟨13,[.o (.g [.h 34,.h 35,.h 36]),.o (.c (.h 20))],[],.t [.c (.h 37),.c (.h 38)],[]⟩) ::
  (1000062,.call ⟨21,[.o (.g [.h 34,.h 35,.h 36]),.o (.c (.k (.int .i64 30)))],[],.o (.c (.h 39)),[]⟩) ::
  (1000063,.bin .gtr 3 (LF (.h 39)) (LF (.k (.int .i64 30))) (LF (.h 40))) ::
  (10040,.fb 40 false) ::
  (1000065,.bin .neq 33 (LF (.h 28)) (LF (.k (.int .i64 0))) (LF (.h 41))) ::
  (10041,.fb 41 false) ::
  (1000072,.bin .neq 33 (LF (.h 30)) (LF (.k (.int .i64 0))) (LF (.h 42))) ::
  (10042,.fb 42 false) ::
  (1000080,.bin .eql 33 (LF (.h 28)) (LF (.k (.int .i64 0))) (LF (.h 43))) ::
  (10043,.fb 43 true) ::
  (1000083,.call ⟨22,[.o (.c (.h 27))],[],.o (.c (.h 44)),[]⟩) ::
  (1000084,.un .not (LF (.h 44)) (LF (.h 45))) ::
  (10045,.fb 45 false) ::
  (1000089,.bin .eql 33 (LF (.h 30)) (LF (.k (.int .i64 0))) (LF (.h 46))) ::
  (10046,.fb 46 true) ::
  (1000092,.call ⟨22,[.o (.c (.h 29))],[],.o (.c (.h 47)),[]⟩) ::
  (1000093,.un .not (LF (.h 47)) (LF (.h 48))) ::
  (10048,.fb 48 false) ::
  (1000098,.bin .eql 3 (LF (.h 33)) (LF (.k (.int .i64 3))) (LF (.h 49))) ::
  (10049,.fb 49 false) ::
  (1000100,.bin .eql 3 (LF (.h 33)) (LF (.k (.int .i64 4))) (LF (.h 50))) ::
  (10050,.fb 50 false) ::
  (1000102,.bin .eql 3 (LF (.h 33)) (LF (.k (.int .i64 5))) (LF (.h 51))) ::
  (10051,.fb 51 false) ::
  (1000104,.bin .eql 3 (LF (.h 33)) (LF (.k (.int .i64 6))) (LF (.h 52))) ::
  (10052,.fb 52 false) ::
  (1000106,.bin .eql 3 (LF (.h 33)) (LF (.k (.int .i64 7))) (LF (.h 53))) ::
  (10053,.fb 53 true) ::
  (1000110,.op (.max [3,3] 3) [LF (.h 27),LF (.h 29)] [] (LF (.h 54))) ::
  (1000113,.bin .neq 33 (LF (.h 28)) (LF (.k (.int .i64 0))) (LF (.h 55))) ::
  (10055,.fb 55 false) ::
  (1000116,.bin .neq 33 (LF (.h 30)) (LF (.k (.int .i64 0))) (LF (.h 56))) ::
  (10056,.fb 56 false) ::
  (1000120,.call ⟨22,[.o (.c (.h 54))],[],.o (.c (.h 57)),[]⟩) ::
  (1000121,.un .not (LF (.h 57)) (LF (.h 58))) ::
  (10058,.fb 58 true) ::
  (1000126,.bin .eql 33 (LF (.h 38)) (LF (.k (.int .i64 3))) (LF (.h 59))) ::
  (10059,.fb 59 true) ::
  (1000130,.bin .eql 3 (LF (.h 37)) (LF (.k (.int .i64 0))) (LF (.h 60)))::[]:List (Nat×Ent))) (k:=⟨5,[.o (.g [.h 0,.h 1,.h 2,.h 3,.h 4,.h 5,.h 6]),.o (.g [.h 7,.h 8,.h 9,.h 10,.h 11,.h 12,.h 13]),.o (.c (.h 14)),.o (.c (.h 15))],[],.o (.c (.h 60)),[]⟩) ⟨[],[⟨1000002,[.gn 9],[],[]⟩,⟨2,.gl 5 3 1 2::[31].map (fun s=>.sl s (.o (.c (.gr 5)))),[31].map (fun s=>.sl s (.o (.c (.h 19)))),[5]⟩],0⟩ [] 0 (zi ⟨(ze zf),zb rfl,zb rfl,zb rfl,zb rfl,zb rfl,zb rfl,(ze zf),zb rfl,zb rfl,zb rfl,zb rfl,zb rfl,zb rfl,(ze zf),zb rfl,zb rfl,zb rfl,(ze zf),(ze zf),(ze zf),zb rfl,zb rfl,(ze (zh rfl)),zb rfl,zb rfl,(ze (zh rfl)),zb rfl,zb rfl,zb rfl,zb rfl,zb rfl,zb rfl,zb rfl,zb rfl,zb rfl,(ze (zh rfl)),zb rfl,zb rfl,zb rfl,zb rfl,zb rfl,zb rfl,zb rfl,zb rfl,zb rfl,zb rfl,zb rfl,zb rfl,zb rfl,zb rfl,zb rfl,zb rfl,zb rfl,zb rfl,zb rfl,zb rfl,zb rfl,zb rfl,zb rfl,zb rfl,trivial⟩ ⟨(zk zf),(zk zf),(zk zf),trivial⟩) ⟨zg (zH hL) rfl rfl rfl rfl,
  e_glt (c:=cI) (l:=([]:List Int)) rfl rfl (fun _ _ _ h=>h) rfl zf (by decide),
  zm (E:=3) (by kernel_rfl) (zd rfl) (za (by rw [← e1];rfl)),
  e_op2 (za rfl) zc (za rfl) (fun W=>by rw [← e2];exact zK W),
  zw (E:=3) (z:=1) (fun _=>rfl) (by kernel_rfl) (by kernel_rfl) (zd rfl) (za rfl) s4 s6 (zd (by rw [e5];rfl)),
  qi (c:=cI) zf (fun _=>rfl) rfl (by rw [e7];rfl) rfl s8,
  qj (c:=cI) (l2:=([(1:Int),(2:Int),(3:Int)]:List Int)) zf (fun _=>rfl) rfl (by rw [e9];rfl) rfl (fun _ _ _ h=>h) rfl rfl s10,
  zw (E:=3) (z:=1) (fun _=>rfl) (by kernel_rfl) (by kernel_rfl) (zd rfl) zc s12 s14 (zd (by rw [e13];rfl)),
  zg (zE c (3:Int) v15 e15 s16 s17) rfl rfl rfl rfl,
  zg (zE d (3:Int) v18 e18 s19 s20) rfl rfl rfl rfl,
  zg (zr v15 v13 v21 v22 e21 e22 s23) rfl rfl rfl rfl,
  zg (zr v18 v13 v24 v25 e24 e25 s26) rfl rfl rfl rfl,
  e_op1 (za rfl) (za rfl) (fun W=>by rw [← e27];exact r_cvi (by kernel_rfl) (by kernel_rfl) W),
  e_bin (za rfl) zc (za rfl) (r_ar ((zU (by decide)).trans (congrArg some e28))),
  e_bin zc (za rfl) (za rfl) (r_ar (congrArg some e29)),
  zg (x_opL v29 v15 v18 v30 e30) rfl rfl rfl rfl,
  zg (zr v30 v13 v31 v32 e31 e32 s33) rfl rfl rfl rfl,
  zg (zS v30 (30:Int) v34 e34 s35 s36) rfl rfl rfl rfl,
  e_bin (za rfl) zc (za rfl) (r_cmp (congrArg some e37)),
  e_fb (show pV (.bool v37)=_ by rw [h38]),
  e_bin (za rfl) zc (za rfl) (r_cmp (congrArg some e39)),
  e_fb (show pV (.bool v39)=_ by rw [h40]),
  e_bin (za rfl) zc (za rfl) (r_cmp (congrArg some e41)),
  e_fb (show pV (.bool v41)=_ by rw [h42]),
  e_bin (za rfl) zc (za rfl) (r_cmp (congrArg some e43)),
  e_fb (show pV (.bool v43)=_ by rw [h44]),
  zg (zy v21 v45 e45) rfl rfl rfl rfl,
  e_un (za rfl) (za rfl) (fun W=>by rw [← e46];exact r_not W),
  e_fb (show pV (.bool v46)=_ by rw [h47]),
  e_bin (za rfl) zc (za rfl) (r_cmp (congrArg some e48)),
  e_fb (show pV (.bool v48)=_ by rw [h49]),
  zg (zy v24 v50 e50) rfl rfl rfl rfl,
  e_un (za rfl) (za rfl) (fun W=>by rw [← e51];exact r_not W),
  e_fb (show pV (.bool v51)=_ by rw [h52]),
  e_bin (za rfl) zc (za rfl) (r_cmp (congrArg some e53)),
  e_fb (show pV (.bool v53)=_ by rw [h54]),
  e_bin (za rfl) zc (za rfl) (r_cmp (congrArg some e55)),
  e_fb (show pV (.bool v55)=_ by rw [h56]),
  e_bin (za rfl) zc (za rfl) (r_cmp (congrArg some e57)),
  e_fb (show pV (.bool v57)=_ by rw [h58]),
  e_bin (za rfl) zc (za rfl) (r_cmp (congrArg some e59)),
  e_fb (show pV (.bool v59)=_ by rw [h60]),
  e_bin (za rfl) zc (za rfl) (r_cmp (congrArg some e61)),
  e_fb (show pV (.bool v61)=_ by rw [h62]),
  e_op2 (za rfl) (za rfl) (za rfl) (fun W=>by rw [← e63];exact zcS W),
  e_bin (za rfl) zc (za rfl) (r_cmp (congrArg some e64)),
  e_fb (show pV (.bool v64)=_ by rw [h65]),
  e_bin (za rfl) zc (za rfl) (r_cmp (congrArg some e66)),
  e_fb (show pV (.bool v66)=_ by rw [h67]),
  zg (zy v63 v68 e68) rfl rfl rfl rfl,
  e_un (za rfl) (za rfl) (fun W=>by rw [← e69];exact r_not W),
  e_fb (show pV (.bool v69)=_ by rw [h70]),
  e_bin (za rfl) zc (za rfl) (r_cmp (congrArg some e71)),
  e_fb (show pV (.bool v71)=_ by rw [h72]),
  e_bin (za rfl) zc (za rfl) (r_cmp (congrArg some e73)),
  trivial⟩ mixed ⟨zR,zD (c:=cI) (fun _=>rfl) (by decide) zf rfl rfl,trivial⟩ (fun _ _ _ _ _ hs=>by cases hs) (by kernel_rfl)) rfl rfl rfl rfl
theorem ze0 {w0:World} (c:(List Int)) (c0:Int) (c1:Int) (c2:Int) (c3:Int) (c4:Int) (c5:Int) (d:(List Int)) (d0:Int) (d1:Int) (d2:Int) (d3:Int) (d4:Int) (d5:Int) (x:(List Int)) (z:Int) (hL:LibT w0) (v1:Int) (v2:Int) (n3:Nat) (v5:(List Int)) (v7:(List Int)) (v9:(List Int)) (n11:Nat) (v13:(List Int)) (v15:Xp) (v18:Xp) (v21:Int) (v22:Int) (v24:Int) (v25:Int) (v27:Int) (v28:Int) (v29:Int) (v30:Xp) (v31:Int) (v32:Int) (v34:Int) (v37:Bool) (v39:Bool) (v41:Bool) (v43:Bool) (v45:Bool) (v47:Bool) (v48:Bool) (v50:Bool) (v52:Bool) (v54:Int) (v55:Bool) (v57:Bool) (v59:Bool) (v61:Bool) (e1:((x.length:Int))=v1) (e2:((if (3:Int)<v1 then (3:Int) else v1))=v2) (e5:(x.take n3)=v5) (e7:(([]:List Int)++v5)=v7) (e9:(v7++([(1:Int),(2:Int),(3:Int)]:List Int))=v9) (e13:(v9.take n11)=v13) (e15:(madE c)=v15) (e18:(madE d)=v18) (e21:((evalE v15 v13).1)=v21) (e22:((evalE v15 v13).2)=v22) (e24:((evalE v18 v13).1)=v24) (e25:((evalE v18 v13).2)=v25) (e27:(IntKind.i64.wrap z)=v27) (e28:((v27:Int).tmod (5:Int))=v28) (e29:(IntKind.i64.wrap ((3:Int)+v28))=v29) (e30:((Xp.mk v29 0 [v15,v18]))=v30) (e31:((evalE v30 v13).1)=v31) (e32:((evalE v30 v13).2)=v32) (e34:(sizeX v30 (30:Int))=v34) (e37:(decide (v34 > (30:Int)))=v37) (e39:((v22 != (0:Int)))=v39) (e41:((v25 != (0:Int)))=v41) (e43:((v25 != (3:Int)))=v43) (e45:((v22 == (0:Int)))=v45) (e47:(valB v21)=v47) (e48:(!v47)=v48) (e50:((v25 == (0:Int)))=v50) (e52:((v29 == (3:Int)))=v52) (e54:(IntKind.i64.wrap (v21+v24))=v54) (e55:((v22 != (0:Int)))=v55) (e57:((v25 != (0:Int)))=v57) (e59:((v32 == (3:Int)))=v59) (e61:((v31 == (0:Int)))=v61) (s4:v2=(n3:Int)) (s6:n3≤x.length) (s8:(([]:List Int).length+v5.length)*1≤1099511627776) (s10:(v7.length+([(1:Int),(2:Int),(3:Int)]:List Int).length)*1≤1099511627776) (s12:(3:Int)=(n11:Int)) (s14:n11≤v9.length) (s16:(3:Int)=3) (s17:c.length<9223372036854775807) (s19:(3:Int)=3) (s20:d.length<9223372036854775807) (s23:nodes v15≤1000000) (s26:nodes v18≤1000000) (s33:nodes v30≤1000000) (s35:nodes v30≤1000000) (s36:0≤(30:Int)∧(30:Int)≤1000) (h38:v37=false) (h40:v39=false) (h42:v41=true) (h44:v43=false) (h46:v45=true) (h49:v48=false) (h51:v50=false) (h53:v52=true) (h56:v55=false) (h58:v57=true) (h60:v59=true):Fun (KN w0) Tryd.prog 5 [.o (.g [pLs cI c,pI c0,pI c1,pI c2,pI c3,pI c4,pI c5]),.o (.g [pLs cI d,pI d0,pI d1,pI d2,pI d3,pI d4,pI d5]),.o (.c (pLs cI x)),.o (.c (pV (.int .u8 z)))] (.o (.c (pB v61))):=
 zj (zA (F:=FL [pLs cI c,pI c0,pI c1,pI c2,pI c3,pI c4,pI c5,pLs cI d,pI d0,pI d1,pI d2,pI d3,pI d4,pI d5,pLs cI x,pV (.int .u8 z),pI v1,pI v2,pLs cI v5,pLs cI v9,pLs cI v13,pI v15.op,pI v15.n,pLs cE v15.l,pI v18.op,pI v18.n,pLs cE v18.l,pI v21,pI v22,pI v24,pI v25,pI v27,pI v28,pI v29,pI v30.op,pI v30.n,pLs cE v30.l,pI v31,pI v32,pI v34,pB v37,pB v39,pB v41,pB v43,pB v45,pB v47,pB v48,pB v50,pB v52,pI v54,pB v55,pB v57,pB v59,pB v61] [pG cI ([]:List Int),pG cI v7,pG cI v9]) (C:=((1000003,.call ⟨8,[],[],.o (.c (.k (.bool true))),[]⟩) ::
  (1000005,.glt 3 1 [] 0) ::
  (1000008,.op (.len [22] 3) [LF (.h 14)] [] (LF (.h 16))) ::
  (1000009,.op (.min [3,3] 3) [LF (.h 16),LF (.k (.int .i64 3))] [] (LF (.h 17))) ::
  (1000010,.op (.sc 22 false true false) [LF (.h 14),LF (.h 17)] [] (LF (.h 18))) ::
  (1000011,.app 3 1 5 0 1 (.o (.c (.h 18))) [] false) ::
  (1000013,.app 3 1 5 1 2 (.o (.c (.s 12 0 3 3))) [.bx 12 3 [.k (.int .i64 1),.k (.int .i64 2),.k (.int .i64 3)]] false) ::
  (1000014,.op (.sc 22 false true false) [LF (.h 19),LF (.k (.int .i64 3))] [] (LF (.h 20))) ::
  (1000018,.call ⟨19,[.o (.c (.h 0)),.o (.c (.k (.int .i64 3)))],[],.o (.g [.h 21,.h 22,.h 23]),[]⟩) ::
  (1000021,.call ⟨19,[.o (.c (.h 7)),.o (.c (.k (.int .i64 3)))],[],.o (.g [.h 24,.h 25,.h 26]),[]⟩) ::
  (1000028,.call ⟨13,[.o (.g [.h 21,.h 22,.h 23]),.o (.c (.h 20))],[],.t [.c (.h 27),.c (.h 28)],[]⟩) ::
  (1000036,.call ⟨13,[.o (.g [.h 24,.h 25,.h 26]),.o (.c (.h 20))],[],.t [.c (.h 29),.c (.h 30)],[]⟩) ::
  (1000043,.op (.cv 5 3) [LF (.h 15)] [] (LF (.h 31))) ::
  (1000044,.bin .rem 3 (LF (.h 31)) (LF (.k (.int .i64 5))) (LF (.h 32))) ::
  (1000045,.bin .add 3 (LF (.k (.int .i64 3))) (LF (.h 32)) (LF (.h 33))) ::
  (1000050,.call ⟨20,[.o (.c (.h 33)),.o (.g [.h 21,.h 22,.h 23]),.o (.g [.h 24,.h 25,.h 26])],[],.o (.g [.h 34,.h 35,.h 36]),[]⟩) ::
  (1000055,.call ⟨13,[.o (.g [.h 34,.h 35,.h 36]),.o (.c (.h 20))],[],.t [.c (.h 37),.c (.h 38)],[]⟩) ::
  (1000062,.call ⟨21,[.o (.g [.h 34,.h 35,.h 36]),.o (.c (.k (.int .i64 30)))],[],.o (.c (.h 39)),[]⟩) ::
  (1000063,.bin .gtr 3 (LF (.h 39)) (LF (.k (.int .i64 30))) (LF (.h 40))) ::
  (10040,.fb 40 false) ::
  (1000065,.bin .neq 33 (LF (.h 28)) (LF (.k (.int .i64 0))) (LF (.h 41))) ::
  (10041,.fb 41 false) ::
  (1000072,.bin .neq 33 (LF (.h 30)) (LF (.k (.int .i64 0))) (LF (.h 42))) ::
  (10042,.fb 42 true) ::
  (1000075,.bin .neq 33 (LF (.h 30)) (LF (.k (.int .i64 3))) (LF (.h 43))) ::
  (10043,.fb 43 false) ::
  (1000080,.bin .eql 33 (LF (.h 28)) (LF (.k (.int .i64 0))) (LF (.h 44))) ::
  (10044,.fb 44 true) ::
  (1000083,.call ⟨22,[.o (.c (.h 27))],[],.o (.c (.h 45)),[]⟩) ::
  (1000084,.un .not (LF (.h 45)) (LF (.h 46))) ::
  (10046,.fb 46 false) ::
  (1000089,.bin .eql 33 (LF (.h 30)) (LF (.k (.int .i64 0))) (LF (.h 47))) ::
  (10047,.fb 47 false) ::
  (1000098,.bin .eql 3 (LF (.h 33)) (LF (.k (.int .i64 3))) (LF (.h 48))) ::
  (10048,.fb 48 true) ::
  (1000102,.bin .add 3 (LF (.h 27)) (LF (.h 29)) (LF (.h 49))) ::
  (1000105,.bin .neq 33 (LF (.h 28)) (LF (.k (.int .i64 0))) (LF (.h 50))) ::
  (10050,.fb 50 false) ::
  (1000108,.bin .neq 33 (LF (.h 30)) (LF (.k (.int .i64 0))) (LF (.h 51))) ::
  (10051,.fb 51 true) ::
  (1000118,.bin .eql 33 (LF (.h 38)) (LF (.k (.int .i64 3))) (LF (.h 52))) ::
  (10052,.fb 52 true) ::
  (1000122,.bin .eql 3 (LF (.h 37)) (LF (.k (.int .i64 0))) (LF (.h 53)))::[]:List (Nat×Ent))) (k:=⟨5,[.o (.g [.h 0,.h 1,.h 2,.h 3,.h 4,.h 5,.h 6]),.o (.g [.h 7,.h 8,.h 9,.h 10,.h 11,.h 12,.h 13]),.o (.c (.h 14)),.o (.c (.h 15))],[],.o (.c (.h 53)),[]⟩) ⟨[],[⟨1000002,[.gn 9],[],[]⟩,⟨2,.gl 5 3 1 2::[31].map (fun s=>.sl s (.o (.c (.gr 5)))),[31].map (fun s=>.sl s (.o (.c (.h 19)))),[5]⟩],0⟩ [] 0 (zi ⟨(ze zf),zb rfl,zb rfl,zb rfl,zb rfl,zb rfl,zb rfl,(ze zf),zb rfl,zb rfl,zb rfl,zb rfl,zb rfl,zb rfl,(ze zf),zb rfl,zb rfl,zb rfl,(ze zf),(ze zf),(ze zf),zb rfl,zb rfl,(ze (zh rfl)),zb rfl,zb rfl,(ze (zh rfl)),zb rfl,zb rfl,zb rfl,zb rfl,zb rfl,zb rfl,zb rfl,zb rfl,zb rfl,(ze (zh rfl)),zb rfl,zb rfl,zb rfl,zb rfl,zb rfl,zb rfl,zb rfl,zb rfl,zb rfl,zb rfl,zb rfl,zb rfl,zb rfl,zb rfl,zb rfl,zb rfl,zb rfl,trivial⟩ ⟨(zk zf),(zk zf),(zk zf),trivial⟩) ⟨zg (zH hL) rfl rfl rfl rfl,
  e_glt (c:=cI) (l:=([]:List Int)) rfl rfl (fun _ _ _ h=>h) rfl zf (by decide),
  zm (E:=3) (by kernel_rfl) (zd rfl) (za (by rw [← e1];rfl)),
  e_op2 (za rfl) zc (za rfl) (fun W=>by rw [← e2];exact zK W),
  zw (E:=3) (z:=1) (fun _=>rfl) (by kernel_rfl) (by kernel_rfl) (zd rfl) (za rfl) s4 s6 (zd (by rw [e5];rfl)),
  qi (c:=cI) zf (fun _=>rfl) rfl (by rw [e7];rfl) rfl s8,
  qj (c:=cI) (l2:=([(1:Int),(2:Int),(3:Int)]:List Int)) zf (fun _=>rfl) rfl (by rw [e9];rfl) rfl (fun _ _ _ h=>h) rfl rfl s10,
  zw (E:=3) (z:=1) (fun _=>rfl) (by kernel_rfl) (by kernel_rfl) (zd rfl) zc s12 s14 (zd (by rw [e13];rfl)),
  zg (zE c (3:Int) v15 e15 s16 s17) rfl rfl rfl rfl,
  zg (zE d (3:Int) v18 e18 s19 s20) rfl rfl rfl rfl,
  zg (zr v15 v13 v21 v22 e21 e22 s23) rfl rfl rfl rfl,
  zg (zr v18 v13 v24 v25 e24 e25 s26) rfl rfl rfl rfl,
  e_op1 (za rfl) (za rfl) (fun W=>by rw [← e27];exact r_cvi (by kernel_rfl) (by kernel_rfl) W),
  e_bin (za rfl) zc (za rfl) (r_ar ((zU (by decide)).trans (congrArg some e28))),
  e_bin zc (za rfl) (za rfl) (r_ar (congrArg some e29)),
  zg (x_opL v29 v15 v18 v30 e30) rfl rfl rfl rfl,
  zg (zr v30 v13 v31 v32 e31 e32 s33) rfl rfl rfl rfl,
  zg (zS v30 (30:Int) v34 e34 s35 s36) rfl rfl rfl rfl,
  e_bin (za rfl) zc (za rfl) (r_cmp (congrArg some e37)),
  e_fb (show pV (.bool v37)=_ by rw [h38]),
  e_bin (za rfl) zc (za rfl) (r_cmp (congrArg some e39)),
  e_fb (show pV (.bool v39)=_ by rw [h40]),
  e_bin (za rfl) zc (za rfl) (r_cmp (congrArg some e41)),
  e_fb (show pV (.bool v41)=_ by rw [h42]),
  e_bin (za rfl) zc (za rfl) (r_cmp (congrArg some e43)),
  e_fb (show pV (.bool v43)=_ by rw [h44]),
  e_bin (za rfl) zc (za rfl) (r_cmp (congrArg some e45)),
  e_fb (show pV (.bool v45)=_ by rw [h46]),
  zg (zy v21 v47 e47) rfl rfl rfl rfl,
  e_un (za rfl) (za rfl) (fun W=>by rw [← e48];exact r_not W),
  e_fb (show pV (.bool v48)=_ by rw [h49]),
  e_bin (za rfl) zc (za rfl) (r_cmp (congrArg some e50)),
  e_fb (show pV (.bool v50)=_ by rw [h51]),
  e_bin (za rfl) zc (za rfl) (r_cmp (congrArg some e52)),
  e_fb (show pV (.bool v52)=_ by rw [h53]),
  e_bin (za rfl) (za rfl) (za rfl) (r_ar (congrArg some e54)),
  e_bin (za rfl) zc (za rfl) (r_cmp (congrArg some e55)),
  e_fb (show pV (.bool v55)=_ by rw [h56]),
  e_bin (za rfl) zc (za rfl) (r_cmp (congrArg some e57)),
  e_fb (show pV (.bool v57)=_ by rw [h58]),
  e_bin (za rfl) zc (za rfl) (r_cmp (congrArg some e59)),
  e_fb (show pV (.bool v59)=_ by rw [h60]),
  e_bin (za rfl) zc (za rfl) (r_cmp (congrArg some e61)),
  trivial⟩ mixed ⟨zR,zD (c:=cI) (fun _=>rfl) (by decide) zf rfl rfl,trivial⟩ (fun _ _ _ _ _ hs=>by cases hs) (by kernel_rfl)) rfl rfl rfl rfl
theorem ze1 {w0:World} (c:(List Int)) (c0:Int) (c1:Int) (c2:Int) (c3:Int) (c4:Int) (c5:Int) (d:(List Int)) (d0:Int) (d1:Int) (d2:Int) (d3:Int) (d4:Int) (d5:Int) (x:(List Int)) (z:Int) (hL:LibT w0) (v1:Int) (v2:Int) (n3:Nat) (v5:(List Int)) (v7:(List Int)) (v9:(List Int)) (n11:Nat) (v13:(List Int)) (v15:Xp) (v18:Xp) (v21:Int) (v22:Int) (v24:Int) (v25:Int) (v27:Int) (v28:Int) (v29:Int) (v30:Xp) (v31:Int) (v32:Int) (v34:Int) (v37:Bool) (v39:Bool) (v41:Bool) (v43:Bool) (v45:Bool) (v47:Bool) (v48:Bool) (v50:Bool) (v52:Bool) (v54:Bool) (v56:Int) (v57:Bool) (v59:Bool) (v61:Bool) (v63:Bool) (e1:((x.length:Int))=v1) (e2:((if (3:Int)<v1 then (3:Int) else v1))=v2) (e5:(x.take n3)=v5) (e7:(([]:List Int)++v5)=v7) (e9:(v7++([(1:Int),(2:Int),(3:Int)]:List Int))=v9) (e13:(v9.take n11)=v13) (e15:(madE c)=v15) (e18:(madE d)=v18) (e21:((evalE v15 v13).1)=v21) (e22:((evalE v15 v13).2)=v22) (e24:((evalE v18 v13).1)=v24) (e25:((evalE v18 v13).2)=v25) (e27:(IntKind.i64.wrap z)=v27) (e28:((v27:Int).tmod (5:Int))=v28) (e29:(IntKind.i64.wrap ((3:Int)+v28))=v29) (e30:((Xp.mk v29 0 [v15,v18]))=v30) (e31:((evalE v30 v13).1)=v31) (e32:((evalE v30 v13).2)=v32) (e34:(sizeX v30 (30:Int))=v34) (e37:(decide (v34 > (30:Int)))=v37) (e39:((v22 != (0:Int)))=v39) (e41:((v25 != (0:Int)))=v41) (e43:((v25 != (3:Int)))=v43) (e45:((v22 == (0:Int)))=v45) (e47:(valB v21)=v47) (e48:(!v47)=v48) (e50:((v25 == (0:Int)))=v50) (e52:((v29 == (3:Int)))=v52) (e54:((v29 == (4:Int)))=v54) (e56:(IntKind.i64.wrap (v21 - v24))=v56) (e57:((v22 != (0:Int)))=v57) (e59:((v25 != (0:Int)))=v59) (e61:((v32 == (3:Int)))=v61) (e63:((v31 == (0:Int)))=v63) (s4:v2=(n3:Int)) (s6:n3≤x.length) (s8:(([]:List Int).length+v5.length)*1≤1099511627776) (s10:(v7.length+([(1:Int),(2:Int),(3:Int)]:List Int).length)*1≤1099511627776) (s12:(3:Int)=(n11:Int)) (s14:n11≤v9.length) (s16:(3:Int)=3) (s17:c.length<9223372036854775807) (s19:(3:Int)=3) (s20:d.length<9223372036854775807) (s23:nodes v15≤1000000) (s26:nodes v18≤1000000) (s33:nodes v30≤1000000) (s35:nodes v30≤1000000) (s36:0≤(30:Int)∧(30:Int)≤1000) (h38:v37=false) (h40:v39=false) (h42:v41=true) (h44:v43=false) (h46:v45=true) (h49:v48=false) (h51:v50=false) (h53:v52=false) (h55:v54=true) (h58:v57=false) (h60:v59=true) (h62:v61=true):Fun (KN w0) Tryd.prog 5 [.o (.g [pLs cI c,pI c0,pI c1,pI c2,pI c3,pI c4,pI c5]),.o (.g [pLs cI d,pI d0,pI d1,pI d2,pI d3,pI d4,pI d5]),.o (.c (pLs cI x)),.o (.c (pV (.int .u8 z)))] (.o (.c (pB v63))):=
 zj (zA (F:=FL [pLs cI c,pI c0,pI c1,pI c2,pI c3,pI c4,pI c5,pLs cI d,pI d0,pI d1,pI d2,pI d3,pI d4,pI d5,pLs cI x,pV (.int .u8 z),pI v1,pI v2,pLs cI v5,pLs cI v9,pLs cI v13,pI v15.op,pI v15.n,pLs cE v15.l,pI v18.op,pI v18.n,pLs cE v18.l,pI v21,pI v22,pI v24,pI v25,pI v27,pI v28,pI v29,pI v30.op,pI v30.n,pLs cE v30.l,pI v31,pI v32,pI v34,pB v37,pB v39,pB v41,pB v43,pB v45,pB v47,pB v48,pB v50,pB v52,pB v54,pI v56,pB v57,pB v59,pB v61,pB v63] [pG cI ([]:List Int),pG cI v7,pG cI v9]) (C:=((1000003,.call ⟨8,[],[],.o (.c (.k (.bool true))),[]⟩) ::
  (1000005,.glt 3 1 [] 0) ::
  (1000008,.op (.len [22] 3) [LF (.h 14)] [] (LF (.h 16))) ::
  (1000009,.op (.min [3,3] 3) [LF (.h 16),LF (.k (.int .i64 3))] [] (LF (.h 17))) ::
  (1000010,.op (.sc 22 false true false) [LF (.h 14),LF (.h 17)] [] (LF (.h 18))) ::
  (1000011,.app 3 1 5 0 1 (.o (.c (.h 18))) [] false) ::
  (1000013,.app 3 1 5 1 2 (.o (.c (.s 12 0 3 3))) [.bx 12 3 [.k (.int .i64 1),.k (.int .i64 2),.k (.int .i64 3)]] false) ::
  (1000014,.op (.sc 22 false true false) [LF (.h 19),LF (.k (.int .i64 3))] [] (LF (.h 20))) ::
  (1000018,.call ⟨19,[.o (.c (.h 0)),.o (.c (.k (.int .i64 3)))],[],.o (.g [.h 21,.h 22,.h 23]),[]⟩) ::
  (1000021,.call ⟨19,[.o (.c (.h 7)),.o (.c (.k (.int .i64 3)))],[],.o (.g [.h 24,.h 25,.h 26]),[]⟩) ::
  (1000028,.call ⟨13,[.o (.g [.h 21,.h 22,.h 23]),.o (.c (.h 20))],[],.t [.c (.h 27),.c (.h 28)],[]⟩) ::
  (1000036,.call ⟨13,[.o (.g [.h 24,.h 25,.h 26]),.o (.c (.h 20))],[],.t [.c (.h 29),.c (.h 30)],[]⟩) ::
  (1000043,.op (.cv 5 3) [LF (.h 15)] [] (LF (.h 31))) ::
  (1000044,.bin .rem 3 (LF (.h 31)) (LF (.k (.int .i64 5))) (LF (.h 32))) ::
  (1000045,.bin .add 3 (LF (.k (.int .i64 3))) (LF (.h 32)) (LF (.h 33))) ::
  (1000050,.call ⟨20,[.o (.c (.h 33)),.o (.g [.h 21,.h 22,.h 23]),.o (.g [.h 24,.h 25,.h 26])],[],.o (.g [.h 34,.h 35,.h 36]),[]⟩) ::
  (1000055,.call ⟨13,[.o (.g [.h 34,.h 35,.h 36]),.o (.c (.h 20))],[],.t [.c (.h 37),.c (.h 38)],[]⟩) ::
  (1000062,.call ⟨21,[.o (.g [.h 34,.h 35,.h 36]),.o (.c (.k (.int .i64 30)))],[],.o (.c (.h 39)),[]⟩) ::
  (1000063,.bin .gtr 3 (LF (.h 39)) (LF (.k (.int .i64 30))) (LF (.h 40))) ::
  (10040,.fb 40 false) ::
  (1000065,.bin .neq 33 (LF (.h 28)) (LF (.k (.int .i64 0))) (LF (.h 41))) ::
  (10041,.fb 41 false) ::
  (1000072,.bin .neq 33 (LF (.h 30)) (LF (.k (.int .i64 0))) (LF (.h 42))) ::
  (10042,.fb 42 true) ::
  (1000075,.bin .neq 33 (LF (.h 30)) (LF (.k (.int .i64 3))) (LF (.h 43))) ::
  (10043,.fb 43 false) ::
  (1000080,.bin .eql 33 (LF (.h 28)) (LF (.k (.int .i64 0))) (LF (.h 44))) ::
  (10044,.fb 44 true) ::
  (1000083,.call ⟨22,[.o (.c (.h 27))],[],.o (.c (.h 45)),[]⟩) ::
  (1000084,.un .not (LF (.h 45)) (LF (.h 46))) ::
  (10046,.fb 46 false) ::
  (1000089,.bin .eql 33 (LF (.h 30)) (LF (.k (.int .i64 0))) (LF (.h 47))) ::
  (10047,.fb 47 false) ::
  (1000098,.bin .eql 3 (LF (.h 33)) (LF (.k (.int .i64 3))) (LF (.h 48))) ::
  (10048,.fb 48 false) ::
  (1000100,.bin .eql 3 (LF (.h 33)) (LF (.k (.int .i64 4))) (LF (.h 49))) ::
  (10049,.fb 49 true) ::
  (1000104,.bin .sub 3 (LF (.h 27)) (LF (.h 29)) (LF (.h 50))) ::
  (1000107,.bin .neq 33 (LF (.h 28)) (LF (.k (.int .i64 0))) (LF (.h 51))) ::
  (10051,.fb 51 false) ::
  (1000110,.bin .neq 33 (LF (.h 30)) (LF (.k (.int .i64 0))) (LF (.h 52))) ::
  (10052,.fb 52 true) ::
  (1000120,.bin .eql 33 (LF (.h 38)) (LF (.k (.int .i64 3))) (LF (.h 53))) ::
  (10053,.fb 53 true) ::
  (1000124,.bin .eql 3 (LF (.h 37)) (LF (.k (.int .i64 0))) (LF (.h 54)))::[]:List (Nat×Ent))) (k:=⟨5,[.o (.g [.h 0,.h 1,.h 2,.h 3,.h 4,.h 5,.h 6]),.o (.g [.h 7,.h 8,.h 9,.h 10,.h 11,.h 12,.h 13]),.o (.c (.h 14)),.o (.c (.h 15))],[],.o (.c (.h 54)),[]⟩) ⟨[],[⟨1000002,[.gn 9],[],[]⟩,⟨2,.gl 5 3 1 2::[31].map (fun s=>.sl s (.o (.c (.gr 5)))),[31].map (fun s=>.sl s (.o (.c (.h 19)))),[5]⟩],0⟩ [] 0 (zi ⟨(ze zf),zb rfl,zb rfl,zb rfl,zb rfl,zb rfl,zb rfl,(ze zf),zb rfl,zb rfl,zb rfl,zb rfl,zb rfl,zb rfl,(ze zf),zb rfl,zb rfl,zb rfl,(ze zf),(ze zf),(ze zf),zb rfl,zb rfl,(ze (zh rfl)),zb rfl,zb rfl,(ze (zh rfl)),zb rfl,zb rfl,zb rfl,zb rfl,zb rfl,zb rfl,zb rfl,zb rfl,zb rfl,(ze (zh rfl)),zb rfl,zb rfl,zb rfl,zb rfl,zb rfl,zb rfl,zb rfl,zb rfl,zb rfl,zb rfl,zb rfl,zb rfl,zb rfl,zb rfl,zb rfl,zb rfl,zb rfl,zb rfl,trivial⟩ ⟨(zk zf),(zk zf),(zk zf),trivial⟩) ⟨zg (zH hL) rfl rfl rfl rfl,
  e_glt (c:=cI) (l:=([]:List Int)) rfl rfl (fun _ _ _ h=>h) rfl zf (by decide),
  zm (E:=3) (by kernel_rfl) (zd rfl) (za (by rw [← e1];rfl)),
  e_op2 (za rfl) zc (za rfl) (fun W=>by rw [← e2];exact zK W),
  zw (E:=3) (z:=1) (fun _=>rfl) (by kernel_rfl) (by kernel_rfl) (zd rfl) (za rfl) s4 s6 (zd (by rw [e5];rfl)),
  qi (c:=cI) zf (fun _=>rfl) rfl (by rw [e7];rfl) rfl s8,
  qj (c:=cI) (l2:=([(1:Int),(2:Int),(3:Int)]:List Int)) zf (fun _=>rfl) rfl (by rw [e9];rfl) rfl (fun _ _ _ h=>h) rfl rfl s10,
  zw (E:=3) (z:=1) (fun _=>rfl) (by kernel_rfl) (by kernel_rfl) (zd rfl) zc s12 s14 (zd (by rw [e13];rfl)),
  zg (zE c (3:Int) v15 e15 s16 s17) rfl rfl rfl rfl,
  zg (zE d (3:Int) v18 e18 s19 s20) rfl rfl rfl rfl,
  zg (zr v15 v13 v21 v22 e21 e22 s23) rfl rfl rfl rfl,
  zg (zr v18 v13 v24 v25 e24 e25 s26) rfl rfl rfl rfl,
  e_op1 (za rfl) (za rfl) (fun W=>by rw [← e27];exact r_cvi (by kernel_rfl) (by kernel_rfl) W),
  e_bin (za rfl) zc (za rfl) (r_ar ((zU (by decide)).trans (congrArg some e28))),
  e_bin zc (za rfl) (za rfl) (r_ar (congrArg some e29)),
  zg (x_opL v29 v15 v18 v30 e30) rfl rfl rfl rfl,
  zg (zr v30 v13 v31 v32 e31 e32 s33) rfl rfl rfl rfl,
  zg (zS v30 (30:Int) v34 e34 s35 s36) rfl rfl rfl rfl,
  e_bin (za rfl) zc (za rfl) (r_cmp (congrArg some e37)),
  e_fb (show pV (.bool v37)=_ by rw [h38]),
  e_bin (za rfl) zc (za rfl) (r_cmp (congrArg some e39)),
  e_fb (show pV (.bool v39)=_ by rw [h40]),
  e_bin (za rfl) zc (za rfl) (r_cmp (congrArg some e41)),
  e_fb (show pV (.bool v41)=_ by rw [h42]),
  e_bin (za rfl) zc (za rfl) (r_cmp (congrArg some e43)),
  e_fb (show pV (.bool v43)=_ by rw [h44]),
  e_bin (za rfl) zc (za rfl) (r_cmp (congrArg some e45)),
  e_fb (show pV (.bool v45)=_ by rw [h46]),
  zg (zy v21 v47 e47) rfl rfl rfl rfl,
  e_un (za rfl) (za rfl) (fun W=>by rw [← e48];exact r_not W),
  e_fb (show pV (.bool v48)=_ by rw [h49]),
  e_bin (za rfl) zc (za rfl) (r_cmp (congrArg some e50)),
  e_fb (show pV (.bool v50)=_ by rw [h51]),
  e_bin (za rfl) zc (za rfl) (r_cmp (congrArg some e52)),
  e_fb (show pV (.bool v52)=_ by rw [h53]),
  e_bin (za rfl) zc (za rfl) (r_cmp (congrArg some e54)),
  e_fb (show pV (.bool v54)=_ by rw [h55]),
  e_bin (za rfl) (za rfl) (za rfl) (r_ar (congrArg some e56)),
  e_bin (za rfl) zc (za rfl) (r_cmp (congrArg some e57)),
  e_fb (show pV (.bool v57)=_ by rw [h58]),
  e_bin (za rfl) zc (za rfl) (r_cmp (congrArg some e59)),
  e_fb (show pV (.bool v59)=_ by rw [h60]),
  e_bin (za rfl) zc (za rfl) (r_cmp (congrArg some e61)),
  e_fb (show pV (.bool v61)=_ by rw [h62]),
  e_bin (za rfl) zc (za rfl) (r_cmp (congrArg some e63)),
  trivial⟩ mixed ⟨zR,zD (c:=cI) (fun _=>rfl) (by decide) zf rfl rfl,trivial⟩ (fun _ _ _ _ _ hs=>by cases hs) (by kernel_rfl)) rfl rfl rfl rfl
theorem ze2 {w0:World} (c:(List Int)) (c0:Int) (c1:Int) (c2:Int) (c3:Int) (c4:Int) (c5:Int) (d:(List Int)) (d0:Int) (d1:Int) (d2:Int) (d3:Int) (d4:Int) (d5:Int) (x:(List Int)) (z:Int) (hL:LibT w0) (v1:Int) (v2:Int) (n3:Nat) (v5:(List Int)) (v7:(List Int)) (v9:(List Int)) (n11:Nat) (v13:(List Int)) (v15:Xp) (v18:Xp) (v21:Int) (v22:Int) (v24:Int) (v25:Int) (v27:Int) (v28:Int) (v29:Int) (v30:Xp) (v31:Int) (v32:Int) (v34:Int) (v37:Bool) (v39:Bool) (v41:Bool) (v43:Bool) (v45:Bool) (v47:Bool) (v48:Bool) (v50:Bool) (v52:Bool) (v54:Bool) (v56:Bool) (v58:Int) (v59:Bool) (v61:Bool) (v63:Bool) (v65:Bool) (e1:((x.length:Int))=v1) (e2:((if (3:Int)<v1 then (3:Int) else v1))=v2) (e5:(x.take n3)=v5) (e7:(([]:List Int)++v5)=v7) (e9:(v7++([(1:Int),(2:Int),(3:Int)]:List Int))=v9) (e13:(v9.take n11)=v13) (e15:(madE c)=v15) (e18:(madE d)=v18) (e21:((evalE v15 v13).1)=v21) (e22:((evalE v15 v13).2)=v22) (e24:((evalE v18 v13).1)=v24) (e25:((evalE v18 v13).2)=v25) (e27:(IntKind.i64.wrap z)=v27) (e28:((v27:Int).tmod (5:Int))=v28) (e29:(IntKind.i64.wrap ((3:Int)+v28))=v29) (e30:((Xp.mk v29 0 [v15,v18]))=v30) (e31:((evalE v30 v13).1)=v31) (e32:((evalE v30 v13).2)=v32) (e34:(sizeX v30 (30:Int))=v34) (e37:(decide (v34 > (30:Int)))=v37) (e39:((v22 != (0:Int)))=v39) (e41:((v25 != (0:Int)))=v41) (e43:((v25 != (3:Int)))=v43) (e45:((v22 == (0:Int)))=v45) (e47:(valB v21)=v47) (e48:(!v47)=v48) (e50:((v25 == (0:Int)))=v50) (e52:((v29 == (3:Int)))=v52) (e54:((v29 == (4:Int)))=v54) (e56:((v29 == (5:Int)))=v56) (e58:(IntKind.i64.wrap (v21*v24))=v58) (e59:((v22 != (0:Int)))=v59) (e61:((v25 != (0:Int)))=v61) (e63:((v32 == (3:Int)))=v63) (e65:((v31 == (0:Int)))=v65) (s4:v2=(n3:Int)) (s6:n3≤x.length) (s8:(([]:List Int).length+v5.length)*1≤1099511627776) (s10:(v7.length+([(1:Int),(2:Int),(3:Int)]:List Int).length)*1≤1099511627776) (s12:(3:Int)=(n11:Int)) (s14:n11≤v9.length) (s16:(3:Int)=3) (s17:c.length<9223372036854775807) (s19:(3:Int)=3) (s20:d.length<9223372036854775807) (s23:nodes v15≤1000000) (s26:nodes v18≤1000000) (s33:nodes v30≤1000000) (s35:nodes v30≤1000000) (s36:0≤(30:Int)∧(30:Int)≤1000) (h38:v37=false) (h40:v39=false) (h42:v41=true) (h44:v43=false) (h46:v45=true) (h49:v48=false) (h51:v50=false) (h53:v52=false) (h55:v54=false) (h57:v56=true) (h60:v59=false) (h62:v61=true) (h64:v63=true):Fun (KN w0) Tryd.prog 5 [.o (.g [pLs cI c,pI c0,pI c1,pI c2,pI c3,pI c4,pI c5]),.o (.g [pLs cI d,pI d0,pI d1,pI d2,pI d3,pI d4,pI d5]),.o (.c (pLs cI x)),.o (.c (pV (.int .u8 z)))] (.o (.c (pB v65))):=
 zj (zA (F:=FL [pLs cI c,pI c0,pI c1,pI c2,pI c3,pI c4,pI c5,pLs cI d,pI d0,pI d1,pI d2,pI d3,pI d4,pI d5,pLs cI x,pV (.int .u8 z),pI v1,pI v2,pLs cI v5,pLs cI v9,pLs cI v13,pI v15.op,pI v15.n,pLs cE v15.l,pI v18.op,pI v18.n,pLs cE v18.l,pI v21,pI v22,pI v24,pI v25,pI v27,pI v28,pI v29,pI v30.op,pI v30.n,pLs cE v30.l,pI v31,pI v32,pI v34,pB v37,pB v39,pB v41,pB v43,pB v45,pB v47,pB v48,pB v50,pB v52,pB v54,pB v56,pI v58,pB v59,pB v61,pB v63,pB v65] [pG cI ([]:List Int),pG cI v7,pG cI v9]) (C:=((1000003,.call ⟨8,[],[],.o (.c (.k (.bool true))),[]⟩) ::
  (1000005,.glt 3 1 [] 0) ::
  (1000008,.op (.len [22] 3) [LF (.h 14)] [] (LF (.h 16))) ::
  (1000009,.op (.min [3,3] 3) [LF (.h 16),LF (.k (.int .i64 3))] [] (LF (.h 17))) ::
  (1000010,.op (.sc 22 false true false) [LF (.h 14),LF (.h 17)] [] (LF (.h 18))) ::
  (1000011,.app 3 1 5 0 1 (.o (.c (.h 18))) [] false) ::
  (1000013,.app 3 1 5 1 2 (.o (.c (.s 12 0 3 3))) [.bx 12 3 [.k (.int .i64 1),.k (.int .i64 2),.k (.int .i64 3)]] false) ::
  (1000014,.op (.sc 22 false true false) [LF (.h 19),LF (.k (.int .i64 3))] [] (LF (.h 20))) ::
  (1000018,.call ⟨19,[.o (.c (.h 0)),.o (.c (.k (.int .i64 3)))],[],.o (.g [.h 21,.h 22,.h 23]),[]⟩) ::
  (1000021,.call ⟨19,[.o (.c (.h 7)),.o (.c (.k (.int .i64 3)))],[],.o (.g [.h 24,.h 25,.h 26]),[]⟩) ::
  (1000028,.call ⟨13,[.o (.g [.h 21,.h 22,.h 23]),.o (.c (.h 20))],[],.t [.c (.h 27),.c (.h 28)],[]⟩) ::
  (1000036,.call ⟨13,[.o (.g [.h 24,.h 25,.h 26]),.o (.c (.h 20))],[],.t [.c (.h 29),.c (.h 30)],[]⟩) ::
  (1000043,.op (.cv 5 3) [LF (.h 15)] [] (LF (.h 31))) ::
  (1000044,.bin .rem 3 (LF (.h 31)) (LF (.k (.int .i64 5))) (LF (.h 32))) ::
  (1000045,.bin .add 3 (LF (.k (.int .i64 3))) (LF (.h 32)) (LF (.h 33))) ::
  (1000050,.call ⟨20,[.o (.c (.h 33)),.o (.g [.h 21,.h 22,.h 23]),.o (.g [.h 24,.h 25,.h 26])],[],.o (.g [.h 34,.h 35,.h 36]),[]⟩) ::
  (1000055,.call ⟨13,[.o (.g [.h 34,.h 35,.h 36]),.o (.c (.h 20))],[],.t [.c (.h 37),.c (.h 38)],[]⟩) ::
  (1000062,.call ⟨21,[.o (.g [.h 34,.h 35,.h 36]),.o (.c (.k (.int .i64 30)))],[],.o (.c (.h 39)),[]⟩) ::
  (1000063,.bin .gtr 3 (LF (.h 39)) (LF (.k (.int .i64 30))) (LF (.h 40))) ::
  (10040,.fb 40 false) ::
  (1000065,.bin .neq 33 (LF (.h 28)) (LF (.k (.int .i64 0))) (LF (.h 41))) ::
  (10041,.fb 41 false) ::
  (1000072,.bin .neq 33 (LF (.h 30)) (LF (.k (.int .i64 0))) (LF (.h 42))) ::
  (10042,.fb 42 true) ::
  (1000075,.bin .neq 33 (LF (.h 30)) (LF (.k (.int .i64 3))) (LF (.h 43))) ::
  (10043,.fb 43 false) ::
  (1000080,.bin .eql 33 (LF (.h 28)) (LF (.k (.int .i64 0))) (LF (.h 44))) ::
  (10044,.fb 44 true) ::
  (1000083,.call ⟨22,[.o (.c (.h 27))],[],.o (.c (.h 45)),[]⟩) ::
  (1000084,.un .not (LF (.h 45)) (LF (.h 46))) ::
  (10046,.fb 46 false) ::
  (1000089,.bin .eql 33 (LF (.h 30)) (LF (.k (.int .i64 0))) (LF (.h 47))) ::
  (10047,.fb 47 false) ::
  (1000098,.bin .eql 3 (LF (.h 33)) (LF (.k (.int .i64 3))) (LF (.h 48))) ::
  (10048,.fb 48 false) ::
  (1000100,.bin .eql 3 (LF (.h 33)) (LF (.k (.int .i64 4))) (LF (.h 49))) ::
  (10049,.fb 49 false) ::
  (1000102,.bin .eql 3 (LF (.h 33)) (LF (.k (.int .i64 5))) (LF (.h 50))) ::
  (10050,.fb 50 true) ::
  (1000106,.bin .mul 3 (LF (.h 27)) (LF (.h 29)) (LF (.h 51))) ::
  (1000109,.bin .neq 33 (LF (.h 28)) (LF (.k (.int .i64 0))) (LF (.h 52))) ::
  (10052,.fb 52 false) ::
  (1000112,.bin .neq 33 (LF (.h 30)) (LF (.k (.int .i64 0))) (LF (.h 53))) ::
  (10053,.fb 53 true) ::
  (1000122,.bin .eql 33 (LF (.h 38)) (LF (.k (.int .i64 3))) (LF (.h 54))) ::
  (10054,.fb 54 true) ::
  (1000126,.bin .eql 3 (LF (.h 37)) (LF (.k (.int .i64 0))) (LF (.h 55)))::[]:List (Nat×Ent))) (k:=⟨5,[.o (.g [.h 0,.h 1,.h 2,.h 3,.h 4,.h 5,.h 6]),.o (.g [.h 7,.h 8,.h 9,.h 10,.h 11,.h 12,.h 13]),.o (.c (.h 14)),.o (.c (.h 15))],[],.o (.c (.h 55)),[]⟩) ⟨[],[⟨1000002,[.gn 9],[],[]⟩,⟨2,.gl 5 3 1 2::[31].map (fun s=>.sl s (.o (.c (.gr 5)))),[31].map (fun s=>.sl s (.o (.c (.h 19)))),[5]⟩],0⟩ [] 0 (zi ⟨(ze zf),zb rfl,zb rfl,zb rfl,zb rfl,zb rfl,zb rfl,(ze zf),zb rfl,zb rfl,zb rfl,zb rfl,zb rfl,zb rfl,(ze zf),zb rfl,zb rfl,zb rfl,(ze zf),(ze zf),(ze zf),zb rfl,zb rfl,(ze (zh rfl)),zb rfl,zb rfl,(ze (zh rfl)),zb rfl,zb rfl,zb rfl,zb rfl,zb rfl,zb rfl,zb rfl,zb rfl,zb rfl,(ze (zh rfl)),zb rfl,zb rfl,zb rfl,zb rfl,zb rfl,zb rfl,zb rfl,zb rfl,zb rfl,zb rfl,zb rfl,zb rfl,zb rfl,zb rfl,zb rfl,zb rfl,zb rfl,zb rfl,zb rfl,trivial⟩ ⟨(zk zf),(zk zf),(zk zf),trivial⟩) ⟨zg (zH hL) rfl rfl rfl rfl,
  e_glt (c:=cI) (l:=([]:List Int)) rfl rfl (fun _ _ _ h=>h) rfl zf (by decide),
  zm (E:=3) (by kernel_rfl) (zd rfl) (za (by rw [← e1];rfl)),
  e_op2 (za rfl) zc (za rfl) (fun W=>by rw [← e2];exact zK W),
  zw (E:=3) (z:=1) (fun _=>rfl) (by kernel_rfl) (by kernel_rfl) (zd rfl) (za rfl) s4 s6 (zd (by rw [e5];rfl)),
  qi (c:=cI) zf (fun _=>rfl) rfl (by rw [e7];rfl) rfl s8,
  qj (c:=cI) (l2:=([(1:Int),(2:Int),(3:Int)]:List Int)) zf (fun _=>rfl) rfl (by rw [e9];rfl) rfl (fun _ _ _ h=>h) rfl rfl s10,
  zw (E:=3) (z:=1) (fun _=>rfl) (by kernel_rfl) (by kernel_rfl) (zd rfl) zc s12 s14 (zd (by rw [e13];rfl)),
  zg (zE c (3:Int) v15 e15 s16 s17) rfl rfl rfl rfl,
  zg (zE d (3:Int) v18 e18 s19 s20) rfl rfl rfl rfl,
  zg (zr v15 v13 v21 v22 e21 e22 s23) rfl rfl rfl rfl,
  zg (zr v18 v13 v24 v25 e24 e25 s26) rfl rfl rfl rfl,
  e_op1 (za rfl) (za rfl) (fun W=>by rw [← e27];exact r_cvi (by kernel_rfl) (by kernel_rfl) W),
  e_bin (za rfl) zc (za rfl) (r_ar ((zU (by decide)).trans (congrArg some e28))),
  e_bin zc (za rfl) (za rfl) (r_ar (congrArg some e29)),
  zg (x_opL v29 v15 v18 v30 e30) rfl rfl rfl rfl,
  zg (zr v30 v13 v31 v32 e31 e32 s33) rfl rfl rfl rfl,
  zg (zS v30 (30:Int) v34 e34 s35 s36) rfl rfl rfl rfl,
  e_bin (za rfl) zc (za rfl) (r_cmp (congrArg some e37)),
  e_fb (show pV (.bool v37)=_ by rw [h38]),
  e_bin (za rfl) zc (za rfl) (r_cmp (congrArg some e39)),
  e_fb (show pV (.bool v39)=_ by rw [h40]),
  e_bin (za rfl) zc (za rfl) (r_cmp (congrArg some e41)),
  e_fb (show pV (.bool v41)=_ by rw [h42]),
  e_bin (za rfl) zc (za rfl) (r_cmp (congrArg some e43)),
  e_fb (show pV (.bool v43)=_ by rw [h44]),
  e_bin (za rfl) zc (za rfl) (r_cmp (congrArg some e45)),
  e_fb (show pV (.bool v45)=_ by rw [h46]),
  zg (zy v21 v47 e47) rfl rfl rfl rfl,
  e_un (za rfl) (za rfl) (fun W=>by rw [← e48];exact r_not W),
  e_fb (show pV (.bool v48)=_ by rw [h49]),
  e_bin (za rfl) zc (za rfl) (r_cmp (congrArg some e50)),
  e_fb (show pV (.bool v50)=_ by rw [h51]),
  e_bin (za rfl) zc (za rfl) (r_cmp (congrArg some e52)),
  e_fb (show pV (.bool v52)=_ by rw [h53]),
  e_bin (za rfl) zc (za rfl) (r_cmp (congrArg some e54)),
  e_fb (show pV (.bool v54)=_ by rw [h55]),
  e_bin (za rfl) zc (za rfl) (r_cmp (congrArg some e56)),
  e_fb (show pV (.bool v56)=_ by rw [h57]),
  e_bin (za rfl) (za rfl) (za rfl) (r_ar (congrArg some e58)),
  e_bin (za rfl) zc (za rfl) (r_cmp (congrArg some e59)),
  e_fb (show pV (.bool v59)=_ by rw [h60]),
  e_bin (za rfl) zc (za rfl) (r_cmp (congrArg some e61)),
  e_fb (show pV (.bool v61)=_ by rw [h62]),
  e_bin (za rfl) zc (za rfl) (r_cmp (congrArg some e63)),
  e_fb (show pV (.bool v63)=_ by rw [h64]),
  e_bin (za rfl) zc (za rfl) (r_cmp (congrArg some e65)),
  trivial⟩ mixed ⟨zR,zD (c:=cI) (fun _=>rfl) (by decide) zf rfl rfl,trivial⟩ (fun _ _ _ _ _ hs=>by cases hs) (by kernel_rfl)) rfl rfl rfl rfl
theorem ze3 {w0:World} (c:(List Int)) (c0:Int) (c1:Int) (c2:Int) (c3:Int) (c4:Int) (c5:Int) (d:(List Int)) (d0:Int) (d1:Int) (d2:Int) (d3:Int) (d4:Int) (d5:Int) (x:(List Int)) (z:Int) (hL:LibT w0) (v1:Int) (v2:Int) (n3:Nat) (v5:(List Int)) (v7:(List Int)) (v9:(List Int)) (n11:Nat) (v13:(List Int)) (v15:Xp) (v18:Xp) (v21:Int) (v22:Int) (v24:Int) (v25:Int) (v27:Int) (v28:Int) (v29:Int) (v30:Xp) (v31:Int) (v32:Int) (v34:Int) (v37:Bool) (v39:Bool) (v41:Bool) (v43:Bool) (v45:Bool) (v47:Bool) (v48:Bool) (v50:Bool) (v52:Bool) (v54:Bool) (v56:Bool) (v58:Bool) (v60:Int) (v61:Bool) (v63:Bool) (v65:Bool) (v67:Bool) (e1:((x.length:Int))=v1) (e2:((if (3:Int)<v1 then (3:Int) else v1))=v2) (e5:(x.take n3)=v5) (e7:(([]:List Int)++v5)=v7) (e9:(v7++([(1:Int),(2:Int),(3:Int)]:List Int))=v9) (e13:(v9.take n11)=v13) (e15:(madE c)=v15) (e18:(madE d)=v18) (e21:((evalE v15 v13).1)=v21) (e22:((evalE v15 v13).2)=v22) (e24:((evalE v18 v13).1)=v24) (e25:((evalE v18 v13).2)=v25) (e27:(IntKind.i64.wrap z)=v27) (e28:((v27:Int).tmod (5:Int))=v28) (e29:(IntKind.i64.wrap ((3:Int)+v28))=v29) (e30:((Xp.mk v29 0 [v15,v18]))=v30) (e31:((evalE v30 v13).1)=v31) (e32:((evalE v30 v13).2)=v32) (e34:(sizeX v30 (30:Int))=v34) (e37:(decide (v34 > (30:Int)))=v37) (e39:((v22 != (0:Int)))=v39) (e41:((v25 != (0:Int)))=v41) (e43:((v25 != (3:Int)))=v43) (e45:((v22 == (0:Int)))=v45) (e47:(valB v21)=v47) (e48:(!v47)=v48) (e50:((v25 == (0:Int)))=v50) (e52:((v29 == (3:Int)))=v52) (e54:((v29 == (4:Int)))=v54) (e56:((v29 == (5:Int)))=v56) (e58:((v29 == (6:Int)))=v58) (e60:((if v24<v21 then v24 else v21))=v60) (e61:((v22 != (0:Int)))=v61) (e63:((v25 != (0:Int)))=v63) (e65:((v32 == (3:Int)))=v65) (e67:((v31 == (0:Int)))=v67) (s4:v2=(n3:Int)) (s6:n3≤x.length) (s8:(([]:List Int).length+v5.length)*1≤1099511627776) (s10:(v7.length+([(1:Int),(2:Int),(3:Int)]:List Int).length)*1≤1099511627776) (s12:(3:Int)=(n11:Int)) (s14:n11≤v9.length) (s16:(3:Int)=3) (s17:c.length<9223372036854775807) (s19:(3:Int)=3) (s20:d.length<9223372036854775807) (s23:nodes v15≤1000000) (s26:nodes v18≤1000000) (s33:nodes v30≤1000000) (s35:nodes v30≤1000000) (s36:0≤(30:Int)∧(30:Int)≤1000) (h38:v37=false) (h40:v39=false) (h42:v41=true) (h44:v43=false) (h46:v45=true) (h49:v48=false) (h51:v50=false) (h53:v52=false) (h55:v54=false) (h57:v56=false) (h59:v58=true) (h62:v61=false) (h64:v63=true) (h66:v65=true):Fun (KN w0) Tryd.prog 5 [.o (.g [pLs cI c,pI c0,pI c1,pI c2,pI c3,pI c4,pI c5]),.o (.g [pLs cI d,pI d0,pI d1,pI d2,pI d3,pI d4,pI d5]),.o (.c (pLs cI x)),.o (.c (pV (.int .u8 z)))] (.o (.c (pB v67))):=
 zj (zA (F:=FL [pLs cI c,pI c0,pI c1,pI c2,pI c3,pI c4,pI c5,pLs cI d,pI d0,pI d1,pI d2,pI d3,pI d4,pI d5,pLs cI x,pV (.int .u8 z),pI v1,pI v2,pLs cI v5,pLs cI v9,pLs cI v13,pI v15.op,pI v15.n,pLs cE v15.l,pI v18.op,pI v18.n,pLs cE v18.l,pI v21,pI v22,pI v24,pI v25,pI v27,pI v28,pI v29,pI v30.op,pI v30.n,pLs cE v30.l,pI v31,pI v32,pI v34,pB v37,pB v39,pB v41,pB v43,pB v45,pB v47,pB v48,pB v50,pB v52,pB v54,pB v56,pB v58,pI v60,pB v61,pB v63,pB v65,pB v67] [pG cI ([]:List Int),pG cI v7,pG cI v9]) (C:=((1000003,.call ⟨8,[],[],.o (.c (.k (.bool true))),[]⟩) ::
  (1000005,.glt 3 1 [] 0) ::
  (1000008,.op (.len [22] 3) [LF (.h 14)] [] (LF (.h 16))) ::
  (1000009,.op (.min [3,3] 3) [LF (.h 16),LF (.k (.int .i64 3))] [] (LF (.h 17))) ::
  (1000010,.op (.sc 22 false true false) [LF (.h 14),LF (.h 17)] [] (LF (.h 18))) ::
  (1000011,.app 3 1 5 0 1 (.o (.c (.h 18))) [] false) ::
  (1000013,.app 3 1 5 1 2 (.o (.c (.s 12 0 3 3))) [.bx 12 3 [.k (.int .i64 1),.k (.int .i64 2),.k (.int .i64 3)]] false) ::
  (1000014,.op (.sc 22 false true false) [LF (.h 19),LF (.k (.int .i64 3))] [] (LF (.h 20))) ::
  (1000018,.call ⟨19,[.o (.c (.h 0)),.o (.c (.k (.int .i64 3)))],[],.o (.g [.h 21,.h 22,.h 23]),[]⟩) ::
  (1000021,.call ⟨19,[.o (.c (.h 7)),.o (.c (.k (.int .i64 3)))],[],.o (.g [.h 24,.h 25,.h 26]),[]⟩) ::
  (1000028,.call ⟨13,[.o (.g [.h 21,.h 22,.h 23]),.o (.c (.h 20))],[],.t [.c (.h 27),.c (.h 28)],[]⟩) ::
  (1000036,.call ⟨13,[.o (.g [.h 24,.h 25,.h 26]),.o (.c (.h 20))],[],.t [.c (.h 29),.c (.h 30)],[]⟩) ::
  (1000043,.op (.cv 5 3) [LF (.h 15)] [] (LF (.h 31))) ::
  (1000044,.bin .rem 3 (LF (.h 31)) (LF (.k (.int .i64 5))) (LF (.h 32))) ::
  (1000045,.bin .add 3 (LF (.k (.int .i64 3))) (LF (.h 32)) (LF (.h 33))) ::
  (1000050,.call ⟨20,[.o (.c (.h 33)),.o (.g [.h 21,.h 22,.h 23]),.o (.g [.h 24,.h 25,.h 26])],[],.o (.g [.h 34,.h 35,.h 36]),[]⟩) ::
  (1000055,.call ⟨13,[.o (.g [.h 34,.h 35,.h 36]),.o (.c (.h 20))],[],.t [.c (.h 37),.c (.h 38)],[]⟩) ::
  (1000062,.call ⟨21,[.o (.g [.h 34,.h 35,.h 36]),.o (.c (.k (.int .i64 30)))],[],.o (.c (.h 39)),[]⟩) ::
  (1000063,.bin .gtr 3 (LF (.h 39)) (LF (.k (.int .i64 30))) (LF (.h 40))) ::
  (10040,.fb 40 false) ::
  (1000065,.bin .neq 33 (LF (.h 28)) (LF (.k (.int .i64 0))) (LF (.h 41))) ::
  (10041,.fb 41 false) ::
  (1000072,.bin .neq 33 (LF (.h 30)) (LF (.k (.int .i64 0))) (LF (.h 42))) ::
  (10042,.fb 42 true) ::
  (1000075,.bin .neq 33 (LF (.h 30)) (LF (.k (.int .i64 3))) (LF (.h 43))) ::
  (10043,.fb 43 false) ::
  (1000080,.bin .eql 33 (LF (.h 28)) (LF (.k (.int .i64 0))) (LF (.h 44))) ::
  (10044,.fb 44 true) ::
  (1000083,.call ⟨22,[.o (.c (.h 27))],[],.o (.c (.h 45)),[]⟩) ::
  (1000084,.un .not (LF (.h 45)) (LF (.h 46))) ::
  (10046,.fb 46 false) ::
  (1000089,.bin .eql 33 (LF (.h 30)) (LF (.k (.int .i64 0))) (LF (.h 47))) ::
  (10047,.fb 47 false) ::
  (1000098,.bin .eql 3 (LF (.h 33)) (LF (.k (.int .i64 3))) (LF (.h 48))) ::
  (10048,.fb 48 false) ::
  (1000100,.bin .eql 3 (LF (.h 33)) (LF (.k (.int .i64 4))) (LF (.h 49))) ::
  (10049,.fb 49 false) ::
  (1000102,.bin .eql 3 (LF (.h 33)) (LF (.k (.int .i64 5))) (LF (.h 50))) ::
  (10050,.fb 50 false) ::
  (1000104,.bin .eql 3 (LF (.h 33)) (LF (.k (.int .i64 6))) (LF (.h 51))) ::
  (10051,.fb 51 true) ::
  (1000108,.op (.min [3,3] 3) [LF (.h 27),LF (.h 29)] [] (LF (.h 52))) ::
  (1000111,.bin .neq 33 (LF (.h 28)) (LF (.k (.int .i64 0))) (LF (.h 53))) ::
  (10053,.fb 53 false) ::
  (1000114,.bin .neq 33 (LF (.h 30)) (LF (.k (.int .i64 0))) (LF (.h 54))) ::
  (10054,.fb 54 true) ::
  (1000124,.bin .eql 33 (LF (.h 38)) (LF (.k (.int .i64 3))) (LF (.h 55))) ::
  (10055,.fb 55 true) ::
  (1000128,.bin .eql 3 (LF (.h 37)) (LF (.k (.int .i64 0))) (LF (.h 56)))::[]:List (Nat×Ent))) (k:=⟨5,[.o (.g [.h 0,.h 1,.h 2,.h 3,.h 4,.h 5,.h 6]),.o (.g [.h 7,.h 8,.h 9,.h 10,.h 11,.h 12,.h 13]),.o (.c (.h 14)),.o (.c (.h 15))],[],.o (.c (.h 56)),[]⟩) ⟨[],[⟨1000002,[.gn 9],[],[]⟩,⟨2,.gl 5 3 1 2::[31].map (fun s=>.sl s (.o (.c (.gr 5)))),[31].map (fun s=>.sl s (.o (.c (.h 19)))),[5]⟩],0⟩ [] 0 (zi ⟨(ze zf),zb rfl,zb rfl,zb rfl,zb rfl,zb rfl,zb rfl,(ze zf),zb rfl,zb rfl,zb rfl,zb rfl,zb rfl,zb rfl,(ze zf),zb rfl,zb rfl,zb rfl,(ze zf),(ze zf),(ze zf),zb rfl,zb rfl,(ze (zh rfl)),zb rfl,zb rfl,(ze (zh rfl)),zb rfl,zb rfl,zb rfl,zb rfl,zb rfl,zb rfl,zb rfl,zb rfl,zb rfl,(ze (zh rfl)),zb rfl,zb rfl,zb rfl,zb rfl,zb rfl,zb rfl,zb rfl,zb rfl,zb rfl,zb rfl,zb rfl,zb rfl,zb rfl,zb rfl,zb rfl,zb rfl,zb rfl,zb rfl,zb rfl,zb rfl,trivial⟩ ⟨(zk zf),(zk zf),(zk zf),trivial⟩) ⟨zg (zH hL) rfl rfl rfl rfl,
  e_glt (c:=cI) (l:=([]:List Int)) rfl rfl (fun _ _ _ h=>h) rfl zf (by decide),
  zm (E:=3) (by kernel_rfl) (zd rfl) (za (by rw [← e1];rfl)),
  e_op2 (za rfl) zc (za rfl) (fun W=>by rw [← e2];exact zK W),
  zw (E:=3) (z:=1) (fun _=>rfl) (by kernel_rfl) (by kernel_rfl) (zd rfl) (za rfl) s4 s6 (zd (by rw [e5];rfl)),
  qi (c:=cI) zf (fun _=>rfl) rfl (by rw [e7];rfl) rfl s8,
  qj (c:=cI) (l2:=([(1:Int),(2:Int),(3:Int)]:List Int)) zf (fun _=>rfl) rfl (by rw [e9];rfl) rfl (fun _ _ _ h=>h) rfl rfl s10,
  zw (E:=3) (z:=1) (fun _=>rfl) (by kernel_rfl) (by kernel_rfl) (zd rfl) zc s12 s14 (zd (by rw [e13];rfl)),
  zg (zE c (3:Int) v15 e15 s16 s17) rfl rfl rfl rfl,
  zg (zE d (3:Int) v18 e18 s19 s20) rfl rfl rfl rfl,
  zg (zr v15 v13 v21 v22 e21 e22 s23) rfl rfl rfl rfl,
  zg (zr v18 v13 v24 v25 e24 e25 s26) rfl rfl rfl rfl,
  e_op1 (za rfl) (za rfl) (fun W=>by rw [← e27];exact r_cvi (by kernel_rfl) (by kernel_rfl) W),
  e_bin (za rfl) zc (za rfl) (r_ar ((zU (by decide)).trans (congrArg some e28))),
  e_bin zc (za rfl) (za rfl) (r_ar (congrArg some e29)),
  zg (x_opL v29 v15 v18 v30 e30) rfl rfl rfl rfl,
  zg (zr v30 v13 v31 v32 e31 e32 s33) rfl rfl rfl rfl,
  zg (zS v30 (30:Int) v34 e34 s35 s36) rfl rfl rfl rfl,
  e_bin (za rfl) zc (za rfl) (r_cmp (congrArg some e37)),
  e_fb (show pV (.bool v37)=_ by rw [h38]),
  e_bin (za rfl) zc (za rfl) (r_cmp (congrArg some e39)),
  e_fb (show pV (.bool v39)=_ by rw [h40]),
  e_bin (za rfl) zc (za rfl) (r_cmp (congrArg some e41)),
  e_fb (show pV (.bool v41)=_ by rw [h42]),
  e_bin (za rfl) zc (za rfl) (r_cmp (congrArg some e43)),
  e_fb (show pV (.bool v43)=_ by rw [h44]),
  e_bin (za rfl) zc (za rfl) (r_cmp (congrArg some e45)),
  e_fb (show pV (.bool v45)=_ by rw [h46]),
  zg (zy v21 v47 e47) rfl rfl rfl rfl,
  e_un (za rfl) (za rfl) (fun W=>by rw [← e48];exact r_not W),
  e_fb (show pV (.bool v48)=_ by rw [h49]),
  e_bin (za rfl) zc (za rfl) (r_cmp (congrArg some e50)),
  e_fb (show pV (.bool v50)=_ by rw [h51]),
  e_bin (za rfl) zc (za rfl) (r_cmp (congrArg some e52)),
  e_fb (show pV (.bool v52)=_ by rw [h53]),
  e_bin (za rfl) zc (za rfl) (r_cmp (congrArg some e54)),
  e_fb (show pV (.bool v54)=_ by rw [h55]),
  e_bin (za rfl) zc (za rfl) (r_cmp (congrArg some e56)),
  e_fb (show pV (.bool v56)=_ by rw [h57]),
  e_bin (za rfl) zc (za rfl) (r_cmp (congrArg some e58)),
  e_fb (show pV (.bool v58)=_ by rw [h59]),
  e_op2 (za rfl) (za rfl) (za rfl) (fun W=>by rw [← e60];exact zK W),
  e_bin (za rfl) zc (za rfl) (r_cmp (congrArg some e61)),
  e_fb (show pV (.bool v61)=_ by rw [h62]),
  e_bin (za rfl) zc (za rfl) (r_cmp (congrArg some e63)),
  e_fb (show pV (.bool v63)=_ by rw [h64]),
  e_bin (za rfl) zc (za rfl) (r_cmp (congrArg some e65)),
  e_fb (show pV (.bool v65)=_ by rw [h66]),
  e_bin (za rfl) zc (za rfl) (r_cmp (congrArg some e67)),
  trivial⟩ mixed ⟨zR,zD (c:=cI) (fun _=>rfl) (by decide) zf rfl rfl,trivial⟩ (fun _ _ _ _ _ hs=>by cases hs) (by kernel_rfl)) rfl rfl rfl rfl
theorem ze4 {w0:World} (c:(List Int)) (c0:Int) (c1:Int) (c2:Int) (c3:Int) (c4:Int) (c5:Int) (d:(List Int)) (d0:Int) (d1:Int) (d2:Int) (d3:Int) (d4:Int) (d5:Int) (x:(List Int)) (z:Int) (hL:LibT w0) (v1:Int) (v2:Int) (n3:Nat) (v5:(List Int)) (v7:(List Int)) (v9:(List Int)) (n11:Nat) (v13:(List Int)) (v15:Xp) (v18:Xp) (v21:Int) (v22:Int) (v24:Int) (v25:Int) (v27:Int) (v28:Int) (v29:Int) (v30:Xp) (v31:Int) (v32:Int) (v34:Int) (v37:Bool) (v39:Bool) (v41:Bool) (v43:Bool) (v45:Bool) (v47:Bool) (v48:Bool) (v50:Bool) (v52:Bool) (v54:Bool) (v56:Bool) (v58:Bool) (v60:Bool) (v62:Int) (v63:Bool) (v65:Bool) (v67:Bool) (v69:Bool) (e1:((x.length:Int))=v1) (e2:((if (3:Int)<v1 then (3:Int) else v1))=v2) (e5:(x.take n3)=v5) (e7:(([]:List Int)++v5)=v7) (e9:(v7++([(1:Int),(2:Int),(3:Int)]:List Int))=v9) (e13:(v9.take n11)=v13) (e15:(madE c)=v15) (e18:(madE d)=v18) (e21:((evalE v15 v13).1)=v21) (e22:((evalE v15 v13).2)=v22) (e24:((evalE v18 v13).1)=v24) (e25:((evalE v18 v13).2)=v25) (e27:(IntKind.i64.wrap z)=v27) (e28:((v27:Int).tmod (5:Int))=v28) (e29:(IntKind.i64.wrap ((3:Int)+v28))=v29) (e30:((Xp.mk v29 0 [v15,v18]))=v30) (e31:((evalE v30 v13).1)=v31) (e32:((evalE v30 v13).2)=v32) (e34:(sizeX v30 (30:Int))=v34) (e37:(decide (v34 > (30:Int)))=v37) (e39:((v22 != (0:Int)))=v39) (e41:((v25 != (0:Int)))=v41) (e43:((v25 != (3:Int)))=v43) (e45:((v22 == (0:Int)))=v45) (e47:(valB v21)=v47) (e48:(!v47)=v48) (e50:((v25 == (0:Int)))=v50) (e52:((v29 == (3:Int)))=v52) (e54:((v29 == (4:Int)))=v54) (e56:((v29 == (5:Int)))=v56) (e58:((v29 == (6:Int)))=v58) (e60:((v29 == (7:Int)))=v60) (e62:((if v24 > v21 then v24 else v21))=v62) (e63:((v22 != (0:Int)))=v63) (e65:((v25 != (0:Int)))=v65) (e67:((v32 == (3:Int)))=v67) (e69:((v31 == (0:Int)))=v69) (s4:v2=(n3:Int)) (s6:n3≤x.length) (s8:(([]:List Int).length+v5.length)*1≤1099511627776) (s10:(v7.length+([(1:Int),(2:Int),(3:Int)]:List Int).length)*1≤1099511627776) (s12:(3:Int)=(n11:Int)) (s14:n11≤v9.length) (s16:(3:Int)=3) (s17:c.length<9223372036854775807) (s19:(3:Int)=3) (s20:d.length<9223372036854775807) (s23:nodes v15≤1000000) (s26:nodes v18≤1000000) (s33:nodes v30≤1000000) (s35:nodes v30≤1000000) (s36:0≤(30:Int)∧(30:Int)≤1000) (h38:v37=false) (h40:v39=false) (h42:v41=true) (h44:v43=false) (h46:v45=true) (h49:v48=false) (h51:v50=false) (h53:v52=false) (h55:v54=false) (h57:v56=false) (h59:v58=false) (h61:v60=true) (h64:v63=false) (h66:v65=true) (h68:v67=true):Fun (KN w0) Tryd.prog 5 [.o (.g [pLs cI c,pI c0,pI c1,pI c2,pI c3,pI c4,pI c5]),.o (.g [pLs cI d,pI d0,pI d1,pI d2,pI d3,pI d4,pI d5]),.o (.c (pLs cI x)),.o (.c (pV (.int .u8 z)))] (.o (.c (pB v69))):=
 zj (zA (F:=FL [pLs cI c,pI c0,pI c1,pI c2,pI c3,pI c4,pI c5,pLs cI d,pI d0,pI d1,pI d2,pI d3,pI d4,pI d5,pLs cI x,pV (.int .u8 z),pI v1,pI v2,pLs cI v5,pLs cI v9,pLs cI v13,pI v15.op,pI v15.n,pLs cE v15.l,pI v18.op,pI v18.n,pLs cE v18.l,pI v21,pI v22,pI v24,pI v25,pI v27,pI v28,pI v29,pI v30.op,pI v30.n,pLs cE v30.l,pI v31,pI v32,pI v34,pB v37,pB v39,pB v41,pB v43,pB v45,pB v47,pB v48,pB v50,pB v52,pB v54,pB v56,pB v58,pB v60,pI v62,pB v63,pB v65,pB v67,pB v69] [pG cI ([]:List Int),pG cI v7,pG cI v9]) (C:=((1000003,.call ⟨8,[],[],.o (.c (.k (.bool true))),[]⟩) ::
  (1000005,.glt 3 1 [] 0) ::
  (1000008,.op (.len [22] 3) [LF (.h 14)] [] (LF (.h 16))) ::
  (1000009,.op (.min [3,3] 3) [LF (.h 16),LF (.k (.int .i64 3))] [] (LF (.h 17))) ::
  (1000010,.op (.sc 22 false true false) [LF (.h 14),LF (.h 17)] [] (LF (.h 18))) ::
  (1000011,.app 3 1 5 0 1 (.o (.c (.h 18))) [] false) ::
  (1000013,.app 3 1 5 1 2 (.o (.c (.s 12 0 3 3))) [.bx 12 3 [.k (.int .i64 1),.k (.int .i64 2),.k (.int .i64 3)]] false) ::
  (1000014,.op (.sc 22 false true false) [LF (.h 19),LF (.k (.int .i64 3))] [] (LF (.h 20))) ::
  (1000018,.call ⟨19,[.o (.c (.h 0)),.o (.c (.k (.int .i64 3)))],[],.o (.g [.h 21,.h 22,.h 23]),[]⟩) ::
  (1000021,.call ⟨19,[.o (.c (.h 7)),.o (.c (.k (.int .i64 3)))],[],.o (.g [.h 24,.h 25,.h 26]),[]⟩) ::
  (1000028,.call ⟨13,[.o (.g [.h 21,.h 22,.h 23]),.o (.c (.h 20))],[],.t [.c (.h 27),.c (.h 28)],[]⟩) ::
  (1000036,.call ⟨13,[.o (.g [.h 24,.h 25,.h 26]),.o (.c (.h 20))],[],.t [.c (.h 29),.c (.h 30)],[]⟩) ::
  (1000043,.op (.cv 5 3) [LF (.h 15)] [] (LF (.h 31))) ::
  (1000044,.bin .rem 3 (LF (.h 31)) (LF (.k (.int .i64 5))) (LF (.h 32))) ::
  (1000045,.bin .add 3 (LF (.k (.int .i64 3))) (LF (.h 32)) (LF (.h 33))) ::
  (1000050,.call ⟨20,[.o (.c (.h 33)),.o (.g [.h 21,.h 22,.h 23]),.o (.g [.h 24,.h 25,.h 26])],[],.o (.g [.h 34,.h 35,.h 36]),[]⟩) ::
  (1000055,.call ⟨13,[.o (.g [.h 34,.h 35,.h 36]),.o (.c (.h 20))],[],.t [.c (.h 37),.c (.h 38)],[]⟩) ::
  (1000062,.call ⟨21,[.o (.g [.h 34,.h 35,.h 36]),.o (.c (.k (.int .i64 30)))],[],.o (.c (.h 39)),[]⟩) ::
  (1000063,.bin .gtr 3 (LF (.h 39)) (LF (.k (.int .i64 30))) (LF (.h 40))) ::
  (10040,.fb 40 false) ::
  (1000065,.bin .neq 33 (LF (.h 28)) (LF (.k (.int .i64 0))) (LF (.h 41))) ::
  (10041,.fb 41 false) ::
  (1000072,.bin .neq 33 (LF (.h 30)) (LF (.k (.int .i64 0))) (LF (.h 42))) ::
  (10042,.fb 42 true) ::
  (1000075,.bin .neq 33 (LF (.h 30)) (LF (.k (.int .i64 3))) (LF (.h 43))) ::
  (10043,.fb 43 false) ::
  (1000080,.bin .eql 33 (LF (.h 28)) (LF (.k (.int .i64 0))) (LF (.h 44))) ::
  (10044,.fb 44 true) ::
  (1000083,.call ⟨22,[.o (.c (.h 27))],[],.o (.c (.h 45)),[]⟩) ::
  (1000084,.un .not (LF (.h 45)) (LF (.h 46))) ::
  (10046,.fb 46 false) ::
  (1000089,.bin .eql 33 (LF (.h 30)) (LF (.k (.int .i64 0))) (LF (.h 47))) ::
  (10047,.fb 47 false) ::
  (1000098,.bin .eql 3 (LF (.h 33)) (LF (.k (.int .i64 3))) (LF (.h 48))) ::
  (10048,.fb 48 false) ::
  (1000100,.bin .eql 3 (LF (.h 33)) (LF (.k (.int .i64 4))) (LF (.h 49))) ::
  (10049,.fb 49 false) ::
  (1000102,.bin .eql 3 (LF (.h 33)) (LF (.k (.int .i64 5))) (LF (.h 50))) ::
  (10050,.fb 50 false) ::
  (1000104,.bin .eql 3 (LF (.h 33)) (LF (.k (.int .i64 6))) (LF (.h 51))) ::
  (10051,.fb 51 false) ::
  (1000106,.bin .eql 3 (LF (.h 33)) (LF (.k (.int .i64 7))) (LF (.h 52))) ::
  (10052,.fb 52 true) ::
  (1000110,.op (.max [3,3] 3) [LF (.h 27),LF (.h 29)] [] (LF (.h 53))) ::
  (1000113,.bin .neq 33 (LF (.h 28)) (LF (.k (.int .i64 0))) (LF (.h 54))) ::
  (10054,.fb 54 false) ::
  (1000116,.bin .neq 33 (LF (.h 30)) (LF (.k (.int .i64 0))) (LF (.h 55))) ::
  (10055,.fb 55 true) ::
  (1000126,.bin .eql 33 (LF (.h 38)) (LF (.k (.int .i64 3))) (LF (.h 56))) ::
  (10056,.fb 56 true) ::
  (1000130,.bin .eql 3 (LF (.h 37)) (LF (.k (.int .i64 0))) (LF (.h 57)))::[]:List (Nat×Ent))) (k:=⟨5,[.o (.g [.h 0,.h 1,.h 2,.h 3,.h 4,.h 5,.h 6]),.o (.g [.h 7,.h 8,.h 9,.h 10,.h 11,.h 12,.h 13]),.o (.c (.h 14)),.o (.c (.h 15))],[],.o (.c (.h 57)),[]⟩) ⟨[],[⟨1000002,[.gn 9],[],[]⟩,⟨2,.gl 5 3 1 2::[31].map (fun s=>.sl s (.o (.c (.gr 5)))),[31].map (fun s=>.sl s (.o (.c (.h 19)))),[5]⟩],0⟩ [] 0 (zi ⟨(ze zf),zb rfl,zb rfl,zb rfl,zb rfl,zb rfl,zb rfl,(ze zf),zb rfl,zb rfl,zb rfl,zb rfl,zb rfl,zb rfl,(ze zf),zb rfl,zb rfl,zb rfl,(ze zf),(ze zf),(ze zf),zb rfl,zb rfl,(ze (zh rfl)),zb rfl,zb rfl,(ze (zh rfl)),zb rfl,zb rfl,zb rfl,zb rfl,zb rfl,zb rfl,zb rfl,zb rfl,zb rfl,(ze (zh rfl)),zb rfl,zb rfl,zb rfl,zb rfl,zb rfl,zb rfl,zb rfl,zb rfl,zb rfl,zb rfl,zb rfl,zb rfl,zb rfl,zb rfl,zb rfl,zb rfl,zb rfl,zb rfl,zb rfl,zb rfl,zb rfl,trivial⟩ ⟨(zk zf),(zk zf),(zk zf),trivial⟩) ⟨zg (zH hL) rfl rfl rfl rfl,
  e_glt (c:=cI) (l:=([]:List Int)) rfl rfl (fun _ _ _ h=>h) rfl zf (by decide),
  zm (E:=3) (by kernel_rfl) (zd rfl) (za (by rw [← e1];rfl)),
  e_op2 (za rfl) zc (za rfl) (fun W=>by rw [← e2];exact zK W),
  zw (E:=3) (z:=1) (fun _=>rfl) (by kernel_rfl) (by kernel_rfl) (zd rfl) (za rfl) s4 s6 (zd (by rw [e5];rfl)),
  qi (c:=cI) zf (fun _=>rfl) rfl (by rw [e7];rfl) rfl s8,
  qj (c:=cI) (l2:=([(1:Int),(2:Int),(3:Int)]:List Int)) zf (fun _=>rfl) rfl (by rw [e9];rfl) rfl (fun _ _ _ h=>h) rfl rfl s10,
  zw (E:=3) (z:=1) (fun _=>rfl) (by kernel_rfl) (by kernel_rfl) (zd rfl) zc s12 s14 (zd (by rw [e13];rfl)),
  zg (zE c (3:Int) v15 e15 s16 s17) rfl rfl rfl rfl,
  zg (zE d (3:Int) v18 e18 s19 s20) rfl rfl rfl rfl,
  zg (zr v15 v13 v21 v22 e21 e22 s23) rfl rfl rfl rfl,
  zg (zr v18 v13 v24 v25 e24 e25 s26) rfl rfl rfl rfl,
  e_op1 (za rfl) (za rfl) (fun W=>by rw [← e27];exact r_cvi (by kernel_rfl) (by kernel_rfl) W),
  e_bin (za rfl) zc (za rfl) (r_ar ((zU (by decide)).trans (congrArg some e28))),
  e_bin zc (za rfl) (za rfl) (r_ar (congrArg some e29)),
  zg (x_opL v29 v15 v18 v30 e30) rfl rfl rfl rfl,
  zg (zr v30 v13 v31 v32 e31 e32 s33) rfl rfl rfl rfl,
  zg (zS v30 (30:Int) v34 e34 s35 s36) rfl rfl rfl rfl,
  e_bin (za rfl) zc (za rfl) (r_cmp (congrArg some e37)),
  e_fb (show pV (.bool v37)=_ by rw [h38]),
  e_bin (za rfl) zc (za rfl) (r_cmp (congrArg some e39)),
  e_fb (show pV (.bool v39)=_ by rw [h40]),
  e_bin (za rfl) zc (za rfl) (r_cmp (congrArg some e41)),
  e_fb (show pV (.bool v41)=_ by rw [h42]),
  e_bin (za rfl) zc (za rfl) (r_cmp (congrArg some e43)),
  e_fb (show pV (.bool v43)=_ by rw [h44]),
  e_bin (za rfl) zc (za rfl) (r_cmp (congrArg some e45)),
  e_fb (show pV (.bool v45)=_ by rw [h46]),
  zg (zy v21 v47 e47) rfl rfl rfl rfl,
  e_un (za rfl) (za rfl) (fun W=>by rw [← e48];exact r_not W),
  e_fb (show pV (.bool v48)=_ by rw [h49]),
  e_bin (za rfl) zc (za rfl) (r_cmp (congrArg some e50)),
  e_fb (show pV (.bool v50)=_ by rw [h51]),
  e_bin (za rfl) zc (za rfl) (r_cmp (congrArg some e52)),
  e_fb (show pV (.bool v52)=_ by rw [h53]),
  e_bin (za rfl) zc (za rfl) (r_cmp (congrArg some e54)),
  e_fb (show pV (.bool v54)=_ by rw [h55]),
  e_bin (za rfl) zc (za rfl) (r_cmp (congrArg some e56)),
  e_fb (show pV (.bool v56)=_ by rw [h57]),
  e_bin (za rfl) zc (za rfl) (r_cmp (congrArg some e58)),
  e_fb (show pV (.bool v58)=_ by rw [h59]),
  e_bin (za rfl) zc (za rfl) (r_cmp (congrArg some e60)),
  e_fb (show pV (.bool v60)=_ by rw [h61]),
  e_op2 (za rfl) (za rfl) (za rfl) (fun W=>by rw [← e62];exact zcS W),
  e_bin (za rfl) zc (za rfl) (r_cmp (congrArg some e63)),
  e_fb (show pV (.bool v63)=_ by rw [h64]),
  e_bin (za rfl) zc (za rfl) (r_cmp (congrArg some e65)),
  e_fb (show pV (.bool v65)=_ by rw [h66]),
  e_bin (za rfl) zc (za rfl) (r_cmp (congrArg some e67)),
  e_fb (show pV (.bool v67)=_ by rw [h68]),
  e_bin (za rfl) zc (za rfl) (r_cmp (congrArg some e69)),
  trivial⟩ mixed ⟨zR,zD (c:=cI) (fun _=>rfl) (by decide) zf rfl rfl,trivial⟩ (fun _ _ _ _ _ hs=>by cases hs) (by kernel_rfl)) rfl rfl rfl rfl
theorem ze5 {w0:World} (c:(List Int)) (c0:Int) (c1:Int) (c2:Int) (c3:Int) (c4:Int) (c5:Int) (d:(List Int)) (d0:Int) (d1:Int) (d2:Int) (d3:Int) (d4:Int) (d5:Int) (x:(List Int)) (z:Int) (hL:LibT w0) (v1:Int) (v2:Int) (n3:Nat) (v5:(List Int)) (v7:(List Int)) (v9:(List Int)) (n11:Nat) (v13:(List Int)) (v15:Xp) (v18:Xp) (v21:Int) (v22:Int) (v24:Int) (v25:Int) (v27:Int) (v28:Int) (v29:Int) (v30:Xp) (v31:Int) (v32:Int) (v34:Int) (v37:Bool) (v39:Bool) (v41:Bool) (v43:Bool) (v45:Bool) (v47:Bool) (v49:Bool) (v50:Bool) (v52:Bool) (v54:Int) (v55:Bool) (v57:Bool) (v59:Bool) (e1:((x.length:Int))=v1) (e2:((if (3:Int)<v1 then (3:Int) else v1))=v2) (e5:(x.take n3)=v5) (e7:(([]:List Int)++v5)=v7) (e9:(v7++([(1:Int),(2:Int),(3:Int)]:List Int))=v9) (e13:(v9.take n11)=v13) (e15:(madE c)=v15) (e18:(madE d)=v18) (e21:((evalE v15 v13).1)=v21) (e22:((evalE v15 v13).2)=v22) (e24:((evalE v18 v13).1)=v24) (e25:((evalE v18 v13).2)=v25) (e27:(IntKind.i64.wrap z)=v27) (e28:((v27:Int).tmod (5:Int))=v28) (e29:(IntKind.i64.wrap ((3:Int)+v28))=v29) (e30:((Xp.mk v29 0 [v15,v18]))=v30) (e31:((evalE v30 v13).1)=v31) (e32:((evalE v30 v13).2)=v32) (e34:(sizeX v30 (30:Int))=v34) (e37:(decide (v34 > (30:Int)))=v37) (e39:((v22 != (0:Int)))=v39) (e41:((v22 != (3:Int)))=v41) (e43:((v25 != (0:Int)))=v43) (e45:((v22 == (0:Int)))=v45) (e47:((v25 == (0:Int)))=v47) (e49:(valB v24)=v49) (e50:(!v49)=v50) (e52:((v29 == (3:Int)))=v52) (e54:(IntKind.i64.wrap (v21+v24))=v54) (e55:((v22 != (0:Int)))=v55) (e57:((v32 == (3:Int)))=v57) (e59:((v31 == (0:Int)))=v59) (s4:v2=(n3:Int)) (s6:n3≤x.length) (s8:(([]:List Int).length+v5.length)*1≤1099511627776) (s10:(v7.length+([(1:Int),(2:Int),(3:Int)]:List Int).length)*1≤1099511627776) (s12:(3:Int)=(n11:Int)) (s14:n11≤v9.length) (s16:(3:Int)=3) (s17:c.length<9223372036854775807) (s19:(3:Int)=3) (s20:d.length<9223372036854775807) (s23:nodes v15≤1000000) (s26:nodes v18≤1000000) (s33:nodes v30≤1000000) (s35:nodes v30≤1000000) (s36:0≤(30:Int)∧(30:Int)≤1000) (h38:v37=false) (h40:v39=true) (h42:v41=false) (h44:v43=false) (h46:v45=false) (h48:v47=true) (h51:v50=false) (h53:v52=true) (h56:v55=true) (h58:v57=true):Fun (KN w0) Tryd.prog 5 [.o (.g [pLs cI c,pI c0,pI c1,pI c2,pI c3,pI c4,pI c5]),.o (.g [pLs cI d,pI d0,pI d1,pI d2,pI d3,pI d4,pI d5]),.o (.c (pLs cI x)),.o (.c (pV (.int .u8 z)))] (.o (.c (pB v59))):=
 zj (zA (F:=FL [pLs cI c,pI c0,pI c1,pI c2,pI c3,pI c4,pI c5,pLs cI d,pI d0,pI d1,pI d2,pI d3,pI d4,pI d5,pLs cI x,pV (.int .u8 z),pI v1,pI v2,pLs cI v5,pLs cI v9,pLs cI v13,pI v15.op,pI v15.n,pLs cE v15.l,pI v18.op,pI v18.n,pLs cE v18.l,pI v21,pI v22,pI v24,pI v25,pI v27,pI v28,pI v29,pI v30.op,pI v30.n,pLs cE v30.l,pI v31,pI v32,pI v34,pB v37,pB v39,pB v41,pB v43,pB v45,pB v47,pB v49,pB v50,pB v52,pI v54,pB v55,pB v57,pB v59] [pG cI ([]:List Int),pG cI v7,pG cI v9]) (C:=((1000003,.call ⟨8,[],[],.o (.c (.k (.bool true))),[]⟩) ::
  (1000005,.glt 3 1 [] 0) ::
  (1000008,.op (.len [22] 3) [LF (.h 14)] [] (LF (.h 16))) ::
  (1000009,.op (.min [3,3] 3) [LF (.h 16),LF (.k (.int .i64 3))] [] (LF (.h 17))) ::
  (1000010,.op (.sc 22 false true false) [LF (.h 14),LF (.h 17)] [] (LF (.h 18))) ::
  (1000011,.app 3 1 5 0 1 (.o (.c (.h 18))) [] false) ::
  (1000013,.app 3 1 5 1 2 (.o (.c (.s 12 0 3 3))) [.bx 12 3 [.k (.int .i64 1),.k (.int .i64 2),.k (.int .i64 3)]] false) ::
  (1000014,.op (.sc 22 false true false) [LF (.h 19),LF (.k (.int .i64 3))] [] (LF (.h 20))) ::
  (1000018,.call ⟨19,[.o (.c (.h 0)),.o (.c (.k (.int .i64 3)))],[],.o (.g [.h 21,.h 22,.h 23]),[]⟩) ::
  (1000021,.call ⟨19,[.o (.c (.h 7)),.o (.c (.k (.int .i64 3)))],[],.o (.g [.h 24,.h 25,.h 26]),[]⟩) ::
  (1000028,.call ⟨13,[.o (.g [.h 21,.h 22,.h 23]),.o (.c (.h 20))],[],.t [.c (.h 27),.c (.h 28)],[]⟩) ::
  (1000036,.call ⟨13,[.o (.g [.h 24,.h 25,.h 26]),.o (.c (.h 20))],[],.t [.c (.h 29),.c (.h 30)],[]⟩) ::
  (1000043,.op (.cv 5 3) [LF (.h 15)] [] (LF (.h 31))) ::
  (1000044,.bin .rem 3 (LF (.h 31)) (LF (.k (.int .i64 5))) (LF (.h 32))) ::
  (1000045,.bin .add 3 (LF (.k (.int .i64 3))) (LF (.h 32)) (LF (.h 33))) ::
  (1000050,.call ⟨20,[.o (.c (.h 33)),.o (.g [.h 21,.h 22,.h 23]),.o (.g [.h 24,.h 25,.h 26])],[],.o (.g [.h 34,.h 35,.h 36]),[]⟩) ::
  (1000055,.call ⟨13,[.o (.g [.h 34,.h 35,.h 36]),.o (.c (.h 20))],[],.t [.c (.h 37),.c (.h 38)],[]⟩) ::
  (1000062,.call ⟨21,[.o (.g [.h 34,.h 35,.h 36]),.o (.c (.k (.int .i64 30)))],[],.o (.c (.h 39)),[]⟩) ::
  (1000063,.bin .gtr 3 (LF (.h 39)) (LF (.k (.int .i64 30))) (LF (.h 40))) ::
  (10040,.fb 40 false) ::
  (1000065,.bin .neq 33 (LF (.h 28)) (LF (.k (.int .i64 0))) (LF (.h 41))) ::
  (10041,.fb 41 true) ::
  (1000068,.bin .neq 33 (LF (.h 28)) (LF (.k (.int .i64 3))) (LF (.h 42))) ::
  (10042,.fb 42 false) ::
  (1000072,.bin .neq 33 (LF (.h 30)) (LF (.k (.int .i64 0))) (LF (.h 43))) ::
  (10043,.fb 43 false) ::
  (1000080,.bin .eql 33 (LF (.h 28)) (LF (.k (.int .i64 0))) (LF (.h 44))) ::
  (10044,.fb 44 false) ::
  (1000089,.bin .eql 33 (LF (.h 30)) (LF (.k (.int .i64 0))) (LF (.h 45))) ::
  (10045,.fb 45 true) ::
  (1000092,.call ⟨22,[.o (.c (.h 29))],[],.o (.c (.h 46)),[]⟩) ::
  (1000093,.un .not (LF (.h 46)) (LF (.h 47))) ::
  (10047,.fb 47 false) ::
  (1000098,.bin .eql 3 (LF (.h 33)) (LF (.k (.int .i64 3))) (LF (.h 48))) ::
  (10048,.fb 48 true) ::
  (1000102,.bin .add 3 (LF (.h 27)) (LF (.h 29)) (LF (.h 49))) ::
  (1000105,.bin .neq 33 (LF (.h 28)) (LF (.k (.int .i64 0))) (LF (.h 50))) ::
  (10050,.fb 50 true) ::
  (1000118,.bin .eql 33 (LF (.h 38)) (LF (.k (.int .i64 3))) (LF (.h 51))) ::
  (10051,.fb 51 true) ::
  (1000122,.bin .eql 3 (LF (.h 37)) (LF (.k (.int .i64 0))) (LF (.h 52)))::[]:List (Nat×Ent))) (k:=⟨5,[.o (.g [.h 0,.h 1,.h 2,.h 3,.h 4,.h 5,.h 6]),.o (.g [.h 7,.h 8,.h 9,.h 10,.h 11,.h 12,.h 13]),.o (.c (.h 14)),.o (.c (.h 15))],[],.o (.c (.h 52)),[]⟩) ⟨[],[⟨1000002,[.gn 9],[],[]⟩,⟨2,.gl 5 3 1 2::[31].map (fun s=>.sl s (.o (.c (.gr 5)))),[31].map (fun s=>.sl s (.o (.c (.h 19)))),[5]⟩],0⟩ [] 0 (zi ⟨(ze zf),zb rfl,zb rfl,zb rfl,zb rfl,zb rfl,zb rfl,(ze zf),zb rfl,zb rfl,zb rfl,zb rfl,zb rfl,zb rfl,(ze zf),zb rfl,zb rfl,zb rfl,(ze zf),(ze zf),(ze zf),zb rfl,zb rfl,(ze (zh rfl)),zb rfl,zb rfl,(ze (zh rfl)),zb rfl,zb rfl,zb rfl,zb rfl,zb rfl,zb rfl,zb rfl,zb rfl,zb rfl,(ze (zh rfl)),zb rfl,zb rfl,zb rfl,zb rfl,zb rfl,zb rfl,zb rfl,zb rfl,zb rfl,zb rfl,zb rfl,zb rfl,zb rfl,zb rfl,zb rfl,zb rfl,trivial⟩ ⟨(zk zf),(zk zf),(zk zf),trivial⟩) ⟨zg (zH hL) rfl rfl rfl rfl,
  e_glt (c:=cI) (l:=([]:List Int)) rfl rfl (fun _ _ _ h=>h) rfl zf (by decide),
  zm (E:=3) (by kernel_rfl) (zd rfl) (za (by rw [← e1];rfl)),
  e_op2 (za rfl) zc (za rfl) (fun W=>by rw [← e2];exact zK W),
  zw (E:=3) (z:=1) (fun _=>rfl) (by kernel_rfl) (by kernel_rfl) (zd rfl) (za rfl) s4 s6 (zd (by rw [e5];rfl)),
  qi (c:=cI) zf (fun _=>rfl) rfl (by rw [e7];rfl) rfl s8,
  qj (c:=cI) (l2:=([(1:Int),(2:Int),(3:Int)]:List Int)) zf (fun _=>rfl) rfl (by rw [e9];rfl) rfl (fun _ _ _ h=>h) rfl rfl s10,
  zw (E:=3) (z:=1) (fun _=>rfl) (by kernel_rfl) (by kernel_rfl) (zd rfl) zc s12 s14 (zd (by rw [e13];rfl)),
  zg (zE c (3:Int) v15 e15 s16 s17) rfl rfl rfl rfl,
  zg (zE d (3:Int) v18 e18 s19 s20) rfl rfl rfl rfl,
  zg (zr v15 v13 v21 v22 e21 e22 s23) rfl rfl rfl rfl,
  zg (zr v18 v13 v24 v25 e24 e25 s26) rfl rfl rfl rfl,
  e_op1 (za rfl) (za rfl) (fun W=>by rw [← e27];exact r_cvi (by kernel_rfl) (by kernel_rfl) W),
  e_bin (za rfl) zc (za rfl) (r_ar ((zU (by decide)).trans (congrArg some e28))),
  e_bin zc (za rfl) (za rfl) (r_ar (congrArg some e29)),
  zg (x_opL v29 v15 v18 v30 e30) rfl rfl rfl rfl,
  zg (zr v30 v13 v31 v32 e31 e32 s33) rfl rfl rfl rfl,
  zg (zS v30 (30:Int) v34 e34 s35 s36) rfl rfl rfl rfl,
  e_bin (za rfl) zc (za rfl) (r_cmp (congrArg some e37)),
  e_fb (show pV (.bool v37)=_ by rw [h38]),
  e_bin (za rfl) zc (za rfl) (r_cmp (congrArg some e39)),
  e_fb (show pV (.bool v39)=_ by rw [h40]),
  e_bin (za rfl) zc (za rfl) (r_cmp (congrArg some e41)),
  e_fb (show pV (.bool v41)=_ by rw [h42]),
  e_bin (za rfl) zc (za rfl) (r_cmp (congrArg some e43)),
  e_fb (show pV (.bool v43)=_ by rw [h44]),
  e_bin (za rfl) zc (za rfl) (r_cmp (congrArg some e45)),
  e_fb (show pV (.bool v45)=_ by rw [h46]),
  e_bin (za rfl) zc (za rfl) (r_cmp (congrArg some e47)),
  e_fb (show pV (.bool v47)=_ by rw [h48]),
  zg (zy v24 v49 e49) rfl rfl rfl rfl,
  e_un (za rfl) (za rfl) (fun W=>by rw [← e50];exact r_not W),
  e_fb (show pV (.bool v50)=_ by rw [h51]),
  e_bin (za rfl) zc (za rfl) (r_cmp (congrArg some e52)),
  e_fb (show pV (.bool v52)=_ by rw [h53]),
  e_bin (za rfl) (za rfl) (za rfl) (r_ar (congrArg some e54)),
  e_bin (za rfl) zc (za rfl) (r_cmp (congrArg some e55)),
  e_fb (show pV (.bool v55)=_ by rw [h56]),
  e_bin (za rfl) zc (za rfl) (r_cmp (congrArg some e57)),
  e_fb (show pV (.bool v57)=_ by rw [h58]),
  e_bin (za rfl) zc (za rfl) (r_cmp (congrArg some e59)),
  trivial⟩ mixed ⟨zR,zD (c:=cI) (fun _=>rfl) (by decide) zf rfl rfl,trivial⟩ (fun _ _ _ _ _ hs=>by cases hs) (by kernel_rfl)) rfl rfl rfl rfl
theorem ze6 {w0:World} (c:(List Int)) (c0:Int) (c1:Int) (c2:Int) (c3:Int) (c4:Int) (c5:Int) (d:(List Int)) (d0:Int) (d1:Int) (d2:Int) (d3:Int) (d4:Int) (d5:Int) (x:(List Int)) (z:Int) (hL:LibT w0) (v1:Int) (v2:Int) (n3:Nat) (v5:(List Int)) (v7:(List Int)) (v9:(List Int)) (n11:Nat) (v13:(List Int)) (v15:Xp) (v18:Xp) (v21:Int) (v22:Int) (v24:Int) (v25:Int) (v27:Int) (v28:Int) (v29:Int) (v30:Xp) (v31:Int) (v32:Int) (v34:Int) (v37:Bool) (v39:Bool) (v41:Bool) (v43:Bool) (v45:Bool) (v47:Bool) (v49:Bool) (v50:Bool) (v52:Bool) (v54:Bool) (v56:Int) (v57:Bool) (v59:Bool) (v61:Bool) (e1:((x.length:Int))=v1) (e2:((if (3:Int)<v1 then (3:Int) else v1))=v2) (e5:(x.take n3)=v5) (e7:(([]:List Int)++v5)=v7) (e9:(v7++([(1:Int),(2:Int),(3:Int)]:List Int))=v9) (e13:(v9.take n11)=v13) (e15:(madE c)=v15) (e18:(madE d)=v18) (e21:((evalE v15 v13).1)=v21) (e22:((evalE v15 v13).2)=v22) (e24:((evalE v18 v13).1)=v24) (e25:((evalE v18 v13).2)=v25) (e27:(IntKind.i64.wrap z)=v27) (e28:((v27:Int).tmod (5:Int))=v28) (e29:(IntKind.i64.wrap ((3:Int)+v28))=v29) (e30:((Xp.mk v29 0 [v15,v18]))=v30) (e31:((evalE v30 v13).1)=v31) (e32:((evalE v30 v13).2)=v32) (e34:(sizeX v30 (30:Int))=v34) (e37:(decide (v34 > (30:Int)))=v37) (e39:((v22 != (0:Int)))=v39) (e41:((v22 != (3:Int)))=v41) (e43:((v25 != (0:Int)))=v43) (e45:((v22 == (0:Int)))=v45) (e47:((v25 == (0:Int)))=v47) (e49:(valB v24)=v49) (e50:(!v49)=v50) (e52:((v29 == (3:Int)))=v52) (e54:((v29 == (4:Int)))=v54) (e56:(IntKind.i64.wrap (v21 - v24))=v56) (e57:((v22 != (0:Int)))=v57) (e59:((v32 == (3:Int)))=v59) (e61:((v31 == (0:Int)))=v61) (s4:v2=(n3:Int)) (s6:n3≤x.length) (s8:(([]:List Int).length+v5.length)*1≤1099511627776) (s10:(v7.length+([(1:Int),(2:Int),(3:Int)]:List Int).length)*1≤1099511627776) (s12:(3:Int)=(n11:Int)) (s14:n11≤v9.length) (s16:(3:Int)=3) (s17:c.length<9223372036854775807) (s19:(3:Int)=3) (s20:d.length<9223372036854775807) (s23:nodes v15≤1000000) (s26:nodes v18≤1000000) (s33:nodes v30≤1000000) (s35:nodes v30≤1000000) (s36:0≤(30:Int)∧(30:Int)≤1000) (h38:v37=false) (h40:v39=true) (h42:v41=false) (h44:v43=false) (h46:v45=false) (h48:v47=true) (h51:v50=false) (h53:v52=false) (h55:v54=true) (h58:v57=true) (h60:v59=true):Fun (KN w0) Tryd.prog 5 [.o (.g [pLs cI c,pI c0,pI c1,pI c2,pI c3,pI c4,pI c5]),.o (.g [pLs cI d,pI d0,pI d1,pI d2,pI d3,pI d4,pI d5]),.o (.c (pLs cI x)),.o (.c (pV (.int .u8 z)))] (.o (.c (pB v61))):=
 zj (zA (F:=FL [pLs cI c,pI c0,pI c1,pI c2,pI c3,pI c4,pI c5,pLs cI d,pI d0,pI d1,pI d2,pI d3,pI d4,pI d5,pLs cI x,pV (.int .u8 z),pI v1,pI v2,pLs cI v5,pLs cI v9,pLs cI v13,pI v15.op,pI v15.n,pLs cE v15.l,pI v18.op,pI v18.n,pLs cE v18.l,pI v21,pI v22,pI v24,pI v25,pI v27,pI v28,pI v29,pI v30.op,pI v30.n,pLs cE v30.l,pI v31,pI v32,pI v34,pB v37,pB v39,pB v41,pB v43,pB v45,pB v47,pB v49,pB v50,pB v52,pB v54,pI v56,pB v57,pB v59,pB v61] [pG cI ([]:List Int),pG cI v7,pG cI v9]) (C:=((1000003,.call ⟨8,[],[],.o (.c (.k (.bool true))),[]⟩) ::
  (1000005,.glt 3 1 [] 0) ::
  (1000008,.op (.len [22] 3) [LF (.h 14)] [] (LF (.h 16))) ::
  (1000009,.op (.min [3,3] 3) [LF (.h 16),LF (.k (.int .i64 3))] [] (LF (.h 17))) ::
  (1000010,.op (.sc 22 false true false) [LF (.h 14),LF (.h 17)] [] (LF (.h 18))) ::
  (1000011,.app 3 1 5 0 1 (.o (.c (.h 18))) [] false) ::
  (1000013,.app 3 1 5 1 2 (.o (.c (.s 12 0 3 3))) [.bx 12 3 [.k (.int .i64 1),.k (.int .i64 2),.k (.int .i64 3)]] false) ::
  (1000014,.op (.sc 22 false true false) [LF (.h 19),LF (.k (.int .i64 3))] [] (LF (.h 20))) ::
  (1000018,.call ⟨19,[.o (.c (.h 0)),.o (.c (.k (.int .i64 3)))],[],.o (.g [.h 21,.h 22,.h 23]),[]⟩) ::
  (1000021,.call ⟨19,[.o (.c (.h 7)),.o (.c (.k (.int .i64 3)))],[],.o (.g [.h 24,.h 25,.h 26]),[]⟩) ::
  (1000028,.call ⟨13,[.o (.g [.h 21,.h 22,.h 23]),.o (.c (.h 20))],[],.t [.c (.h 27),.c (.h 28)],[]⟩) ::
  (1000036,.call ⟨13,[.o (.g [.h 24,.h 25,.h 26]),.o (.c (.h 20))],[],.t [.c (.h 29),.c (.h 30)],[]⟩) ::
  (1000043,.op (.cv 5 3) [LF (.h 15)] [] (LF (.h 31))) ::
  (1000044,.bin .rem 3 (LF (.h 31)) (LF (.k (.int .i64 5))) (LF (.h 32))) ::
  (1000045,.bin .add 3 (LF (.k (.int .i64 3))) (LF (.h 32)) (LF (.h 33))) ::
  (1000050,.call ⟨20,[.o (.c (.h 33)),.o (.g [.h 21,.h 22,.h 23]),.o (.g [.h 24,.h 25,.h 26])],[],.o (.g [.h 34,.h 35,.h 36]),[]⟩) ::
  (1000055,.call ⟨13,[.o (.g [.h 34,.h 35,.h 36]),.o (.c (.h 20))],[],.t [.c (.h 37),.c (.h 38)],[]⟩) ::
  (1000062,.call ⟨21,[.o (.g [.h 34,.h 35,.h 36]),.o (.c (.k (.int .i64 30)))],[],.o (.c (.h 39)),[]⟩) ::
  (1000063,.bin .gtr 3 (LF (.h 39)) (LF (.k (.int .i64 30))) (LF (.h 40))) ::
  (10040,.fb 40 false) ::
  (1000065,.bin .neq 33 (LF (.h 28)) (LF (.k (.int .i64 0))) (LF (.h 41))) ::
  (10041,.fb 41 true) ::
  (1000068,.bin .neq 33 (LF (.h 28)) (LF (.k (.int .i64 3))) (LF (.h 42))) ::
  (10042,.fb 42 false) ::
  (1000072,.bin .neq 33 (LF (.h 30)) (LF (.k (.int .i64 0))) (LF (.h 43))) ::
  (10043,.fb 43 false) ::
  (1000080,.bin .eql 33 (LF (.h 28)) (LF (.k (.int .i64 0))) (LF (.h 44))) ::
  (10044,.fb 44 false) ::
  (1000089,.bin .eql 33 (LF (.h 30)) (LF (.k (.int .i64 0))) (LF (.h 45))) ::
  (10045,.fb 45 true) ::
  (1000092,.call ⟨22,[.o (.c (.h 29))],[],.o (.c (.h 46)),[]⟩) ::
  (1000093,.un .not (LF (.h 46)) (LF (.h 47))) ::
  (10047,.fb 47 false) ::
  (1000098,.bin .eql 3 (LF (.h 33)) (LF (.k (.int .i64 3))) (LF (.h 48))) ::
  (10048,.fb 48 false) ::
  (1000100,.bin .eql 3 (LF (.h 33)) (LF (.k (.int .i64 4))) (LF (.h 49))) ::
  (10049,.fb 49 true) ::
  (1000104,.bin .sub 3 (LF (.h 27)) (LF (.h 29)) (LF (.h 50))) ::
  (1000107,.bin .neq 33 (LF (.h 28)) (LF (.k (.int .i64 0))) (LF (.h 51))) ::
  (10051,.fb 51 true) ::
  (1000120,.bin .eql 33 (LF (.h 38)) (LF (.k (.int .i64 3))) (LF (.h 52))) ::
  (10052,.fb 52 true) ::
  (1000124,.bin .eql 3 (LF (.h 37)) (LF (.k (.int .i64 0))) (LF (.h 53)))::[]:List (Nat×Ent))) (k:=⟨5,[.o (.g [.h 0,.h 1,.h 2,.h 3,.h 4,.h 5,.h 6]),.o (.g [.h 7,.h 8,.h 9,.h 10,.h 11,.h 12,.h 13]),.o (.c (.h 14)),.o (.c (.h 15))],[],.o (.c (.h 53)),[]⟩) ⟨[],[⟨1000002,[.gn 9],[],[]⟩,⟨2,.gl 5 3 1 2::[31].map (fun s=>.sl s (.o (.c (.gr 5)))),[31].map (fun s=>.sl s (.o (.c (.h 19)))),[5]⟩],0⟩ [] 0 (zi ⟨(ze zf),zb rfl,zb rfl,zb rfl,zb rfl,zb rfl,zb rfl,(ze zf),zb rfl,zb rfl,zb rfl,zb rfl,zb rfl,zb rfl,(ze zf),zb rfl,zb rfl,zb rfl,(ze zf),(ze zf),(ze zf),zb rfl,zb rfl,(ze (zh rfl)),zb rfl,zb rfl,(ze (zh rfl)),zb rfl,zb rfl,zb rfl,zb rfl,zb rfl,zb rfl,zb rfl,zb rfl,zb rfl,(ze (zh rfl)),zb rfl,zb rfl,zb rfl,zb rfl,zb rfl,zb rfl,zb rfl,zb rfl,zb rfl,zb rfl,zb rfl,zb rfl,zb rfl,zb rfl,zb rfl,zb rfl,zb rfl,trivial⟩ ⟨(zk zf),(zk zf),(zk zf),trivial⟩) ⟨zg (zH hL) rfl rfl rfl rfl,
  e_glt (c:=cI) (l:=([]:List Int)) rfl rfl (fun _ _ _ h=>h) rfl zf (by decide),
  zm (E:=3) (by kernel_rfl) (zd rfl) (za (by rw [← e1];rfl)),
  e_op2 (za rfl) zc (za rfl) (fun W=>by rw [← e2];exact zK W),
  zw (E:=3) (z:=1) (fun _=>rfl) (by kernel_rfl) (by kernel_rfl) (zd rfl) (za rfl) s4 s6 (zd (by rw [e5];rfl)),
  qi (c:=cI) zf (fun _=>rfl) rfl (by rw [e7];rfl) rfl s8,
  qj (c:=cI) (l2:=([(1:Int),(2:Int),(3:Int)]:List Int)) zf (fun _=>rfl) rfl (by rw [e9];rfl) rfl (fun _ _ _ h=>h) rfl rfl s10,
  zw (E:=3) (z:=1) (fun _=>rfl) (by kernel_rfl) (by kernel_rfl) (zd rfl) zc s12 s14 (zd (by rw [e13];rfl)),
  zg (zE c (3:Int) v15 e15 s16 s17) rfl rfl rfl rfl,
  zg (zE d (3:Int) v18 e18 s19 s20) rfl rfl rfl rfl,
  zg (zr v15 v13 v21 v22 e21 e22 s23) rfl rfl rfl rfl,
  zg (zr v18 v13 v24 v25 e24 e25 s26) rfl rfl rfl rfl,
  e_op1 (za rfl) (za rfl) (fun W=>by rw [← e27];exact r_cvi (by kernel_rfl) (by kernel_rfl) W),
  e_bin (za rfl) zc (za rfl) (r_ar ((zU (by decide)).trans (congrArg some e28))),
  e_bin zc (za rfl) (za rfl) (r_ar (congrArg some e29)),
  zg (x_opL v29 v15 v18 v30 e30) rfl rfl rfl rfl,
  zg (zr v30 v13 v31 v32 e31 e32 s33) rfl rfl rfl rfl,
  zg (zS v30 (30:Int) v34 e34 s35 s36) rfl rfl rfl rfl,
  e_bin (za rfl) zc (za rfl) (r_cmp (congrArg some e37)),
  e_fb (show pV (.bool v37)=_ by rw [h38]),
  e_bin (za rfl) zc (za rfl) (r_cmp (congrArg some e39)),
  e_fb (show pV (.bool v39)=_ by rw [h40]),
  e_bin (za rfl) zc (za rfl) (r_cmp (congrArg some e41)),
  e_fb (show pV (.bool v41)=_ by rw [h42]),
  e_bin (za rfl) zc (za rfl) (r_cmp (congrArg some e43)),
  e_fb (show pV (.bool v43)=_ by rw [h44]),
  e_bin (za rfl) zc (za rfl) (r_cmp (congrArg some e45)),
  e_fb (show pV (.bool v45)=_ by rw [h46]),
  e_bin (za rfl) zc (za rfl) (r_cmp (congrArg some e47)),
  e_fb (show pV (.bool v47)=_ by rw [h48]),
  zg (zy v24 v49 e49) rfl rfl rfl rfl,
  e_un (za rfl) (za rfl) (fun W=>by rw [← e50];exact r_not W),
  e_fb (show pV (.bool v50)=_ by rw [h51]),
  e_bin (za rfl) zc (za rfl) (r_cmp (congrArg some e52)),
  e_fb (show pV (.bool v52)=_ by rw [h53]),
  e_bin (za rfl) zc (za rfl) (r_cmp (congrArg some e54)),
  e_fb (show pV (.bool v54)=_ by rw [h55]),
  e_bin (za rfl) (za rfl) (za rfl) (r_ar (congrArg some e56)),
  e_bin (za rfl) zc (za rfl) (r_cmp (congrArg some e57)),
  e_fb (show pV (.bool v57)=_ by rw [h58]),
  e_bin (za rfl) zc (za rfl) (r_cmp (congrArg some e59)),
  e_fb (show pV (.bool v59)=_ by rw [h60]),
  e_bin (za rfl) zc (za rfl) (r_cmp (congrArg some e61)),
  trivial⟩ mixed ⟨zR,zD (c:=cI) (fun _=>rfl) (by decide) zf rfl rfl,trivial⟩ (fun _ _ _ _ _ hs=>by cases hs) (by kernel_rfl)) rfl rfl rfl rfl
theorem ze7 {w0:World} (c:(List Int)) (c0:Int) (c1:Int) (c2:Int) (c3:Int) (c4:Int) (c5:Int) (d:(List Int)) (d0:Int) (d1:Int) (d2:Int) (d3:Int) (d4:Int) (d5:Int) (x:(List Int)) (z:Int) (hL:LibT w0) (v1:Int) (v2:Int) (n3:Nat) (v5:(List Int)) (v7:(List Int)) (v9:(List Int)) (n11:Nat) (v13:(List Int)) (v15:Xp) (v18:Xp) (v21:Int) (v22:Int) (v24:Int) (v25:Int) (v27:Int) (v28:Int) (v29:Int) (v30:Xp) (v31:Int) (v32:Int) (v34:Int) (v37:Bool) (v39:Bool) (v41:Bool) (v43:Bool) (v45:Bool) (v47:Bool) (v49:Bool) (v50:Bool) (v52:Bool) (v54:Bool) (v56:Bool) (v58:Int) (v59:Bool) (v61:Bool) (v63:Bool) (e1:((x.length:Int))=v1) (e2:((if (3:Int)<v1 then (3:Int) else v1))=v2) (e5:(x.take n3)=v5) (e7:(([]:List Int)++v5)=v7) (e9:(v7++([(1:Int),(2:Int),(3:Int)]:List Int))=v9) (e13:(v9.take n11)=v13) (e15:(madE c)=v15) (e18:(madE d)=v18) (e21:((evalE v15 v13).1)=v21) (e22:((evalE v15 v13).2)=v22) (e24:((evalE v18 v13).1)=v24) (e25:((evalE v18 v13).2)=v25) (e27:(IntKind.i64.wrap z)=v27) (e28:((v27:Int).tmod (5:Int))=v28) (e29:(IntKind.i64.wrap ((3:Int)+v28))=v29) (e30:((Xp.mk v29 0 [v15,v18]))=v30) (e31:((evalE v30 v13).1)=v31) (e32:((evalE v30 v13).2)=v32) (e34:(sizeX v30 (30:Int))=v34) (e37:(decide (v34 > (30:Int)))=v37) (e39:((v22 != (0:Int)))=v39) (e41:((v22 != (3:Int)))=v41) (e43:((v25 != (0:Int)))=v43) (e45:((v22 == (0:Int)))=v45) (e47:((v25 == (0:Int)))=v47) (e49:(valB v24)=v49) (e50:(!v49)=v50) (e52:((v29 == (3:Int)))=v52) (e54:((v29 == (4:Int)))=v54) (e56:((v29 == (5:Int)))=v56) (e58:(IntKind.i64.wrap (v21*v24))=v58) (e59:((v22 != (0:Int)))=v59) (e61:((v32 == (3:Int)))=v61) (e63:((v31 == (0:Int)))=v63) (s4:v2=(n3:Int)) (s6:n3≤x.length) (s8:(([]:List Int).length+v5.length)*1≤1099511627776) (s10:(v7.length+([(1:Int),(2:Int),(3:Int)]:List Int).length)*1≤1099511627776) (s12:(3:Int)=(n11:Int)) (s14:n11≤v9.length) (s16:(3:Int)=3) (s17:c.length<9223372036854775807) (s19:(3:Int)=3) (s20:d.length<9223372036854775807) (s23:nodes v15≤1000000) (s26:nodes v18≤1000000) (s33:nodes v30≤1000000) (s35:nodes v30≤1000000) (s36:0≤(30:Int)∧(30:Int)≤1000) (h38:v37=false) (h40:v39=true) (h42:v41=false) (h44:v43=false) (h46:v45=false) (h48:v47=true) (h51:v50=false) (h53:v52=false) (h55:v54=false) (h57:v56=true) (h60:v59=true) (h62:v61=true):Fun (KN w0) Tryd.prog 5 [.o (.g [pLs cI c,pI c0,pI c1,pI c2,pI c3,pI c4,pI c5]),.o (.g [pLs cI d,pI d0,pI d1,pI d2,pI d3,pI d4,pI d5]),.o (.c (pLs cI x)),.o (.c (pV (.int .u8 z)))] (.o (.c (pB v63))):=
 zj (zA (F:=FL [pLs cI c,pI c0,pI c1,pI c2,pI c3,pI c4,pI c5,pLs cI d,pI d0,pI d1,pI d2,pI d3,pI d4,pI d5,pLs cI x,pV (.int .u8 z),pI v1,pI v2,pLs cI v5,pLs cI v9,pLs cI v13,pI v15.op,pI v15.n,pLs cE v15.l,pI v18.op,pI v18.n,pLs cE v18.l,pI v21,pI v22,pI v24,pI v25,pI v27,pI v28,pI v29,pI v30.op,pI v30.n,pLs cE v30.l,pI v31,pI v32,pI v34,pB v37,pB v39,pB v41,pB v43,pB v45,pB v47,pB v49,pB v50,pB v52,pB v54,pB v56,pI v58,pB v59,pB v61,pB v63] [pG cI ([]:List Int),pG cI v7,pG cI v9]) (C:=((1000003,.call ⟨8,[],[],.o (.c (.k (.bool true))),[]⟩) ::
  (1000005,.glt 3 1 [] 0) ::
  (1000008,.op (.len [22] 3) [LF (.h 14)] [] (LF (.h 16))) ::
  (1000009,.op (.min [3,3] 3) [LF (.h 16),LF (.k (.int .i64 3))] [] (LF (.h 17))) ::
  (1000010,.op (.sc 22 false true false) [LF (.h 14),LF (.h 17)] [] (LF (.h 18))) ::
  (1000011,.app 3 1 5 0 1 (.o (.c (.h 18))) [] false) ::
  (1000013,.app 3 1 5 1 2 (.o (.c (.s 12 0 3 3))) [.bx 12 3 [.k (.int .i64 1),.k (.int .i64 2),.k (.int .i64 3)]] false) ::
  (1000014,.op (.sc 22 false true false) [LF (.h 19),LF (.k (.int .i64 3))] [] (LF (.h 20))) ::
  (1000018,.call ⟨19,[.o (.c (.h 0)),.o (.c (.k (.int .i64 3)))],[],.o (.g [.h 21,.h 22,.h 23]),[]⟩) ::
  (1000021,.call ⟨19,[.o (.c (.h 7)),.o (.c (.k (.int .i64 3)))],[],.o (.g [.h 24,.h 25,.h 26]),[]⟩) ::
  (1000028,.call ⟨13,[.o (.g [.h 21,.h 22,.h 23]),.o (.c (.h 20))],[],.t [.c (.h 27),.c (.h 28)],[]⟩) ::
  (1000036,.call ⟨13,[.o (.g [.h 24,.h 25,.h 26]),.o (.c (.h 20))],[],.t [.c (.h 29),.c (.h 30)],[]⟩) ::
  (1000043,.op (.cv 5 3) [LF (.h 15)] [] (LF (.h 31))) ::
  (1000044,.bin .rem 3 (LF (.h 31)) (LF (.k (.int .i64 5))) (LF (.h 32))) ::
  (1000045,.bin .add 3 (LF (.k (.int .i64 3))) (LF (.h 32)) (LF (.h 33))) ::
  (1000050,.call ⟨20,[.o (.c (.h 33)),.o (.g [.h 21,.h 22,.h 23]),.o (.g [.h 24,.h 25,.h 26])],[],.o (.g [.h 34,.h 35,.h 36]),[]⟩) ::
  (1000055,.call ⟨13,[.o (.g [.h 34,.h 35,.h 36]),.o (.c (.h 20))],[],.t [.c (.h 37),.c (.h 38)],[]⟩) ::
  (1000062,.call ⟨21,[.o (.g [.h 34,.h 35,.h 36]),.o (.c (.k (.int .i64 30)))],[],.o (.c (.h 39)),[]⟩) ::
  (1000063,.bin .gtr 3 (LF (.h 39)) (LF (.k (.int .i64 30))) (LF (.h 40))) ::
  (10040,.fb 40 false) ::
  (1000065,.bin .neq 33 (LF (.h 28)) (LF (.k (.int .i64 0))) (LF (.h 41))) ::
  (10041,.fb 41 true) ::
  (1000068,.bin .neq 33 (LF (.h 28)) (LF (.k (.int .i64 3))) (LF (.h 42))) ::
  (10042,.fb 42 false) ::
  (1000072,.bin .neq 33 (LF (.h 30)) (LF (.k (.int .i64 0))) (LF (.h 43))) ::
  (10043,.fb 43 false) ::
  (1000080,.bin .eql 33 (LF (.h 28)) (LF (.k (.int .i64 0))) (LF (.h 44))) ::
  (10044,.fb 44 false) ::
  (1000089,.bin .eql 33 (LF (.h 30)) (LF (.k (.int .i64 0))) (LF (.h 45))) ::
  (10045,.fb 45 true) ::
  (1000092,.call ⟨22,[.o (.c (.h 29))],[],.o (.c (.h 46)),[]⟩) ::
  (1000093,.un .not (LF (.h 46)) (LF (.h 47))) ::
  (10047,.fb 47 false) ::
  (1000098,.bin .eql 3 (LF (.h 33)) (LF (.k (.int .i64 3))) (LF (.h 48))) ::
  (10048,.fb 48 false) ::
  (1000100,.bin .eql 3 (LF (.h 33)) (LF (.k (.int .i64 4))) (LF (.h 49))) ::
  (10049,.fb 49 false) ::
  (1000102,.bin .eql 3 (LF (.h 33)) (LF (.k (.int .i64 5))) (LF (.h 50))) ::
  (10050,.fb 50 true) ::
  (1000106,.bin .mul 3 (LF (.h 27)) (LF (.h 29)) (LF (.h 51))) ::
  (1000109,.bin .neq 33 (LF (.h 28)) (LF (.k (.int .i64 0))) (LF (.h 52))) ::
  (10052,.fb 52 true) ::
  (1000122,.bin .eql 33 (LF (.h 38)) (LF (.k (.int .i64 3))) (LF (.h 53))) ::
  (10053,.fb 53 true) ::
  (1000126,.bin .eql 3 (LF (.h 37)) (LF (.k (.int .i64 0))) (LF (.h 54)))::[]:List (Nat×Ent))) (k:=⟨5,[.o (.g [.h 0,.h 1,.h 2,.h 3,.h 4,.h 5,.h 6]),.o (.g [.h 7,.h 8,.h 9,.h 10,.h 11,.h 12,.h 13]),.o (.c (.h 14)),.o (.c (.h 15))],[],.o (.c (.h 54)),[]⟩) ⟨[],[⟨1000002,[.gn 9],[],[]⟩,⟨2,.gl 5 3 1 2::[31].map (fun s=>.sl s (.o (.c (.gr 5)))),[31].map (fun s=>.sl s (.o (.c (.h 19)))),[5]⟩],0⟩ [] 0 (zi ⟨(ze zf),zb rfl,zb rfl,zb rfl,zb rfl,zb rfl,zb rfl,(ze zf),zb rfl,zb rfl,zb rfl,zb rfl,zb rfl,zb rfl,(ze zf),zb rfl,zb rfl,zb rfl,(ze zf),(ze zf),(ze zf),zb rfl,zb rfl,(ze (zh rfl)),zb rfl,zb rfl,(ze (zh rfl)),zb rfl,zb rfl,zb rfl,zb rfl,zb rfl,zb rfl,zb rfl,zb rfl,zb rfl,(ze (zh rfl)),zb rfl,zb rfl,zb rfl,zb rfl,zb rfl,zb rfl,zb rfl,zb rfl,zb rfl,zb rfl,zb rfl,zb rfl,zb rfl,zb rfl,zb rfl,zb rfl,zb rfl,zb rfl,trivial⟩ ⟨(zk zf),(zk zf),(zk zf),trivial⟩) ⟨zg (zH hL) rfl rfl rfl rfl,
  e_glt (c:=cI) (l:=([]:List Int)) rfl rfl (fun _ _ _ h=>h) rfl zf (by decide),
  zm (E:=3) (by kernel_rfl) (zd rfl) (za (by rw [← e1];rfl)),
  e_op2 (za rfl) zc (za rfl) (fun W=>by rw [← e2];exact zK W),
  zw (E:=3) (z:=1) (fun _=>rfl) (by kernel_rfl) (by kernel_rfl) (zd rfl) (za rfl) s4 s6 (zd (by rw [e5];rfl)),
  qi (c:=cI) zf (fun _=>rfl) rfl (by rw [e7];rfl) rfl s8,
  qj (c:=cI) (l2:=([(1:Int),(2:Int),(3:Int)]:List Int)) zf (fun _=>rfl) rfl (by rw [e9];rfl) rfl (fun _ _ _ h=>h) rfl rfl s10,
  zw (E:=3) (z:=1) (fun _=>rfl) (by kernel_rfl) (by kernel_rfl) (zd rfl) zc s12 s14 (zd (by rw [e13];rfl)),
  zg (zE c (3:Int) v15 e15 s16 s17) rfl rfl rfl rfl,
  zg (zE d (3:Int) v18 e18 s19 s20) rfl rfl rfl rfl,
  zg (zr v15 v13 v21 v22 e21 e22 s23) rfl rfl rfl rfl,
  zg (zr v18 v13 v24 v25 e24 e25 s26) rfl rfl rfl rfl,
  e_op1 (za rfl) (za rfl) (fun W=>by rw [← e27];exact r_cvi (by kernel_rfl) (by kernel_rfl) W),
  e_bin (za rfl) zc (za rfl) (r_ar ((zU (by decide)).trans (congrArg some e28))),
  e_bin zc (za rfl) (za rfl) (r_ar (congrArg some e29)),
  zg (x_opL v29 v15 v18 v30 e30) rfl rfl rfl rfl,
  zg (zr v30 v13 v31 v32 e31 e32 s33) rfl rfl rfl rfl,
  zg (zS v30 (30:Int) v34 e34 s35 s36) rfl rfl rfl rfl,
  e_bin (za rfl) zc (za rfl) (r_cmp (congrArg some e37)),
  e_fb (show pV (.bool v37)=_ by rw [h38]),
  e_bin (za rfl) zc (za rfl) (r_cmp (congrArg some e39)),
  e_fb (show pV (.bool v39)=_ by rw [h40]),
  e_bin (za rfl) zc (za rfl) (r_cmp (congrArg some e41)),
  e_fb (show pV (.bool v41)=_ by rw [h42]),
  e_bin (za rfl) zc (za rfl) (r_cmp (congrArg some e43)),
  e_fb (show pV (.bool v43)=_ by rw [h44]),
  e_bin (za rfl) zc (za rfl) (r_cmp (congrArg some e45)),
  e_fb (show pV (.bool v45)=_ by rw [h46]),
  e_bin (za rfl) zc (za rfl) (r_cmp (congrArg some e47)),
  e_fb (show pV (.bool v47)=_ by rw [h48]),
  zg (zy v24 v49 e49) rfl rfl rfl rfl,
  e_un (za rfl) (za rfl) (fun W=>by rw [← e50];exact r_not W),
  e_fb (show pV (.bool v50)=_ by rw [h51]),
  e_bin (za rfl) zc (za rfl) (r_cmp (congrArg some e52)),
  e_fb (show pV (.bool v52)=_ by rw [h53]),
  e_bin (za rfl) zc (za rfl) (r_cmp (congrArg some e54)),
  e_fb (show pV (.bool v54)=_ by rw [h55]),
  e_bin (za rfl) zc (za rfl) (r_cmp (congrArg some e56)),
  e_fb (show pV (.bool v56)=_ by rw [h57]),
  e_bin (za rfl) (za rfl) (za rfl) (r_ar (congrArg some e58)),
  e_bin (za rfl) zc (za rfl) (r_cmp (congrArg some e59)),
  e_fb (show pV (.bool v59)=_ by rw [h60]),
  e_bin (za rfl) zc (za rfl) (r_cmp (congrArg some e61)),
  e_fb (show pV (.bool v61)=_ by rw [h62]),
  e_bin (za rfl) zc (za rfl) (r_cmp (congrArg some e63)),
  trivial⟩ mixed ⟨zR,zD (c:=cI) (fun _=>rfl) (by decide) zf rfl rfl,trivial⟩ (fun _ _ _ _ _ hs=>by cases hs) (by kernel_rfl)) rfl rfl rfl rfl
theorem ze8 {w0:World} (c:(List Int)) (c0:Int) (c1:Int) (c2:Int) (c3:Int) (c4:Int) (c5:Int) (d:(List Int)) (d0:Int) (d1:Int) (d2:Int) (d3:Int) (d4:Int) (d5:Int) (x:(List Int)) (z:Int) (hL:LibT w0) (v1:Int) (v2:Int) (n3:Nat) (v5:(List Int)) (v7:(List Int)) (v9:(List Int)) (n11:Nat) (v13:(List Int)) (v15:Xp) (v18:Xp) (v21:Int) (v22:Int) (v24:Int) (v25:Int) (v27:Int) (v28:Int) (v29:Int) (v30:Xp) (v31:Int) (v32:Int) (v34:Int) (v37:Bool) (v39:Bool) (v41:Bool) (v43:Bool) (v45:Bool) (v47:Bool) (v49:Bool) (v50:Bool) (v52:Bool) (v54:Bool) (v56:Bool) (v58:Bool) (v60:Int) (v61:Bool) (v63:Bool) (v65:Bool) (e1:((x.length:Int))=v1) (e2:((if (3:Int)<v1 then (3:Int) else v1))=v2) (e5:(x.take n3)=v5) (e7:(([]:List Int)++v5)=v7) (e9:(v7++([(1:Int),(2:Int),(3:Int)]:List Int))=v9) (e13:(v9.take n11)=v13) (e15:(madE c)=v15) (e18:(madE d)=v18) (e21:((evalE v15 v13).1)=v21) (e22:((evalE v15 v13).2)=v22) (e24:((evalE v18 v13).1)=v24) (e25:((evalE v18 v13).2)=v25) (e27:(IntKind.i64.wrap z)=v27) (e28:((v27:Int).tmod (5:Int))=v28) (e29:(IntKind.i64.wrap ((3:Int)+v28))=v29) (e30:((Xp.mk v29 0 [v15,v18]))=v30) (e31:((evalE v30 v13).1)=v31) (e32:((evalE v30 v13).2)=v32) (e34:(sizeX v30 (30:Int))=v34) (e37:(decide (v34 > (30:Int)))=v37) (e39:((v22 != (0:Int)))=v39) (e41:((v22 != (3:Int)))=v41) (e43:((v25 != (0:Int)))=v43) (e45:((v22 == (0:Int)))=v45) (e47:((v25 == (0:Int)))=v47) (e49:(valB v24)=v49) (e50:(!v49)=v50) (e52:((v29 == (3:Int)))=v52) (e54:((v29 == (4:Int)))=v54) (e56:((v29 == (5:Int)))=v56) (e58:((v29 == (6:Int)))=v58) (e60:((if v24<v21 then v24 else v21))=v60) (e61:((v22 != (0:Int)))=v61) (e63:((v32 == (3:Int)))=v63) (e65:((v31 == (0:Int)))=v65) (s4:v2=(n3:Int)) (s6:n3≤x.length) (s8:(([]:List Int).length+v5.length)*1≤1099511627776) (s10:(v7.length+([(1:Int),(2:Int),(3:Int)]:List Int).length)*1≤1099511627776) (s12:(3:Int)=(n11:Int)) (s14:n11≤v9.length) (s16:(3:Int)=3) (s17:c.length<9223372036854775807) (s19:(3:Int)=3) (s20:d.length<9223372036854775807) (s23:nodes v15≤1000000) (s26:nodes v18≤1000000) (s33:nodes v30≤1000000) (s35:nodes v30≤1000000) (s36:0≤(30:Int)∧(30:Int)≤1000) (h38:v37=false) (h40:v39=true) (h42:v41=false) (h44:v43=false) (h46:v45=false) (h48:v47=true) (h51:v50=false) (h53:v52=false) (h55:v54=false) (h57:v56=false) (h59:v58=true) (h62:v61=true) (h64:v63=true):Fun (KN w0) Tryd.prog 5 [.o (.g [pLs cI c,pI c0,pI c1,pI c2,pI c3,pI c4,pI c5]),.o (.g [pLs cI d,pI d0,pI d1,pI d2,pI d3,pI d4,pI d5]),.o (.c (pLs cI x)),.o (.c (pV (.int .u8 z)))] (.o (.c (pB v65))):=
 zj (zA (F:=FL [pLs cI c,pI c0,pI c1,pI c2,pI c3,pI c4,pI c5,pLs cI d,pI d0,pI d1,pI d2,pI d3,pI d4,pI d5,pLs cI x,pV (.int .u8 z),pI v1,pI v2,pLs cI v5,pLs cI v9,pLs cI v13,pI v15.op,pI v15.n,pLs cE v15.l,pI v18.op,pI v18.n,pLs cE v18.l,pI v21,pI v22,pI v24,pI v25,pI v27,pI v28,pI v29,pI v30.op,pI v30.n,pLs cE v30.l,pI v31,pI v32,pI v34,pB v37,pB v39,pB v41,pB v43,pB v45,pB v47,pB v49,pB v50,pB v52,pB v54,pB v56,pB v58,pI v60,pB v61,pB v63,pB v65] [pG cI ([]:List Int),pG cI v7,pG cI v9]) (C:=((1000003,.call ⟨8,[],[],.o (.c (.k (.bool true))),[]⟩) ::
  (1000005,.glt 3 1 [] 0) ::
  (1000008,.op (.len [22] 3) [LF (.h 14)] [] (LF (.h 16))) ::
  (1000009,.op (.min [3,3] 3) [LF (.h 16),LF (.k (.int .i64 3))] [] (LF (.h 17))) ::
  (1000010,.op (.sc 22 false true false) [LF (.h 14),LF (.h 17)] [] (LF (.h 18))) ::
  (1000011,.app 3 1 5 0 1 (.o (.c (.h 18))) [] false) ::
  (1000013,.app 3 1 5 1 2 (.o (.c (.s 12 0 3 3))) [.bx 12 3 [.k (.int .i64 1),.k (.int .i64 2),.k (.int .i64 3)]] false) ::
  (1000014,.op (.sc 22 false true false) [LF (.h 19),LF (.k (.int .i64 3))] [] (LF (.h 20))) ::
  (1000018,.call ⟨19,[.o (.c (.h 0)),.o (.c (.k (.int .i64 3)))],[],.o (.g [.h 21,.h 22,.h 23]),[]⟩) ::
  (1000021,.call ⟨19,[.o (.c (.h 7)),.o (.c (.k (.int .i64 3)))],[],.o (.g [.h 24,.h 25,.h 26]),[]⟩) ::
  (1000028,.call ⟨13,[.o (.g [.h 21,.h 22,.h 23]),.o (.c (.h 20))],[],.t [.c (.h 27),.c (.h 28)],[]⟩) ::
  (1000036,.call ⟨13,[.o (.g [.h 24,.h 25,.h 26]),.o (.c (.h 20))],[],.t [.c (.h 29),.c (.h 30)],[]⟩) ::
  (1000043,.op (.cv 5 3) [LF (.h 15)] [] (LF (.h 31))) ::
  (1000044,.bin .rem 3 (LF (.h 31)) (LF (.k (.int .i64 5))) (LF (.h 32))) ::
  (1000045,.bin .add 3 (LF (.k (.int .i64 3))) (LF (.h 32)) (LF (.h 33))) ::
  (1000050,.call ⟨20,[.o (.c (.h 33)),.o (.g [.h 21,.h 22,.h 23]),.o (.g [.h 24,.h 25,.h 26])],[],.o (.g [.h 34,.h 35,.h 36]),[]⟩) ::
  (1000055,.call ⟨13,[.o (.g [.h 34,.h 35,.h 36]),.o (.c (.h 20))],[],.t [.c (.h 37),.c (.h 38)],[]⟩) ::
  (1000062,.call ⟨21,[.o (.g [.h 34,.h 35,.h 36]),.o (.c (.k (.int .i64 30)))],[],.o (.c (.h 39)),[]⟩) ::
  (1000063,.bin .gtr 3 (LF (.h 39)) (LF (.k (.int .i64 30))) (LF (.h 40))) ::
  (10040,.fb 40 false) ::
  (1000065,.bin .neq 33 (LF (.h 28)) (LF (.k (.int .i64 0))) (LF (.h 41))) ::
  (10041,.fb 41 true) ::
  (1000068,.bin .neq 33 (LF (.h 28)) (LF (.k (.int .i64 3))) (LF (.h 42))) ::
  (10042,.fb 42 false) ::
  (1000072,.bin .neq 33 (LF (.h 30)) (LF (.k (.int .i64 0))) (LF (.h 43))) ::
  (10043,.fb 43 false) ::
  (1000080,.bin .eql 33 (LF (.h 28)) (LF (.k (.int .i64 0))) (LF (.h 44))) ::
  (10044,.fb 44 false) ::
  (1000089,.bin .eql 33 (LF (.h 30)) (LF (.k (.int .i64 0))) (LF (.h 45))) ::
  (10045,.fb 45 true) ::
  (1000092,.call ⟨22,[.o (.c (.h 29))],[],.o (.c (.h 46)),[]⟩) ::
  (1000093,.un .not (LF (.h 46)) (LF (.h 47))) ::
  (10047,.fb 47 false) ::
  (1000098,.bin .eql 3 (LF (.h 33)) (LF (.k (.int .i64 3))) (LF (.h 48))) ::
  (10048,.fb 48 false) ::
  (1000100,.bin .eql 3 (LF (.h 33)) (LF (.k (.int .i64 4))) (LF (.h 49))) ::
  (10049,.fb 49 false) ::
  (1000102,.bin .eql 3 (LF (.h 33)) (LF (.k (.int .i64 5))) (LF (.h 50))) ::
  (10050,.fb 50 false) ::
  (1000104,.bin .eql 3 (LF (.h 33)) (LF (.k (.int .i64 6))) (LF (.h 51))) ::
  (10051,.fb 51 true) ::
  (1000108,.op (.min [3,3] 3) [LF (.h 27),LF (.h 29)] [] (LF (.h 52))) ::
  (1000111,.bin .neq 33 (LF (.h 28)) (LF (.k (.int .i64 0))) (LF (.h 53))) ::
  (10053,.fb 53 true) ::
  (1000124,.bin .eql 33 (LF (.h 38)) (LF (.k (.int .i64 3))) (LF (.h 54))) ::
  (10054,.fb 54 true) ::
  (1000128,.bin .eql 3 (LF (.h 37)) (LF (.k (.int .i64 0))) (LF (.h 55)))::[]:List (Nat×Ent))) (k:=⟨5,[.o (.g [.h 0,.h 1,.h 2,.h 3,.h 4,.h 5,.h 6]),.o (.g [.h 7,.h 8,.h 9,.h 10,.h 11,.h 12,.h 13]),.o (.c (.h 14)),.o (.c (.h 15))],[],.o (.c (.h 55)),[]⟩) ⟨[],[⟨1000002,[.gn 9],[],[]⟩,⟨2,.gl 5 3 1 2::[31].map (fun s=>.sl s (.o (.c (.gr 5)))),[31].map (fun s=>.sl s (.o (.c (.h 19)))),[5]⟩],0⟩ [] 0 (zi ⟨(ze zf),zb rfl,zb rfl,zb rfl,zb rfl,zb rfl,zb rfl,(ze zf),zb rfl,zb rfl,zb rfl,zb rfl,zb rfl,zb rfl,(ze zf),zb rfl,zb rfl,zb rfl,(ze zf),(ze zf),(ze zf),zb rfl,zb rfl,(ze (zh rfl)),zb rfl,zb rfl,(ze (zh rfl)),zb rfl,zb rfl,zb rfl,zb rfl,zb rfl,zb rfl,zb rfl,zb rfl,zb rfl,(ze (zh rfl)),zb rfl,zb rfl,zb rfl,zb rfl,zb rfl,zb rfl,zb rfl,zb rfl,zb rfl,zb rfl,zb rfl,zb rfl,zb rfl,zb rfl,zb rfl,zb rfl,zb rfl,zb rfl,zb rfl,trivial⟩ ⟨(zk zf),(zk zf),(zk zf),trivial⟩) ⟨zg (zH hL) rfl rfl rfl rfl,
  e_glt (c:=cI) (l:=([]:List Int)) rfl rfl (fun _ _ _ h=>h) rfl zf (by decide),
  zm (E:=3) (by kernel_rfl) (zd rfl) (za (by rw [← e1];rfl)),
  e_op2 (za rfl) zc (za rfl) (fun W=>by rw [← e2];exact zK W),
  zw (E:=3) (z:=1) (fun _=>rfl) (by kernel_rfl) (by kernel_rfl) (zd rfl) (za rfl) s4 s6 (zd (by rw [e5];rfl)),
  qi (c:=cI) zf (fun _=>rfl) rfl (by rw [e7];rfl) rfl s8,
  qj (c:=cI) (l2:=([(1:Int),(2:Int),(3:Int)]:List Int)) zf (fun _=>rfl) rfl (by rw [e9];rfl) rfl (fun _ _ _ h=>h) rfl rfl s10,
  zw (E:=3) (z:=1) (fun _=>rfl) (by kernel_rfl) (by kernel_rfl) (zd rfl) zc s12 s14 (zd (by rw [e13];rfl)),
  zg (zE c (3:Int) v15 e15 s16 s17) rfl rfl rfl rfl,
  zg (zE d (3:Int) v18 e18 s19 s20) rfl rfl rfl rfl,
  zg (zr v15 v13 v21 v22 e21 e22 s23) rfl rfl rfl rfl,
  zg (zr v18 v13 v24 v25 e24 e25 s26) rfl rfl rfl rfl,
  e_op1 (za rfl) (za rfl) (fun W=>by rw [← e27];exact r_cvi (by kernel_rfl) (by kernel_rfl) W),
  e_bin (za rfl) zc (za rfl) (r_ar ((zU (by decide)).trans (congrArg some e28))),
  e_bin zc (za rfl) (za rfl) (r_ar (congrArg some e29)),
  zg (x_opL v29 v15 v18 v30 e30) rfl rfl rfl rfl,
  zg (zr v30 v13 v31 v32 e31 e32 s33) rfl rfl rfl rfl,
  zg (zS v30 (30:Int) v34 e34 s35 s36) rfl rfl rfl rfl,
  e_bin (za rfl) zc (za rfl) (r_cmp (congrArg some e37)),
  e_fb (show pV (.bool v37)=_ by rw [h38]),
  e_bin (za rfl) zc (za rfl) (r_cmp (congrArg some e39)),
  e_fb (show pV (.bool v39)=_ by rw [h40]),
  e_bin (za rfl) zc (za rfl) (r_cmp (congrArg some e41)),
  e_fb (show pV (.bool v41)=_ by rw [h42]),
  e_bin (za rfl) zc (za rfl) (r_cmp (congrArg some e43)),
  e_fb (show pV (.bool v43)=_ by rw [h44]),
  e_bin (za rfl) zc (za rfl) (r_cmp (congrArg some e45)),
  e_fb (show pV (.bool v45)=_ by rw [h46]),
  e_bin (za rfl) zc (za rfl) (r_cmp (congrArg some e47)),
  e_fb (show pV (.bool v47)=_ by rw [h48]),
  zg (zy v24 v49 e49) rfl rfl rfl rfl,
  e_un (za rfl) (za rfl) (fun W=>by rw [← e50];exact r_not W),
  e_fb (show pV (.bool v50)=_ by rw [h51]),
  e_bin (za rfl) zc (za rfl) (r_cmp (congrArg some e52)),
  e_fb (show pV (.bool v52)=_ by rw [h53]),
  e_bin (za rfl) zc (za rfl) (r_cmp (congrArg some e54)),
  e_fb (show pV (.bool v54)=_ by rw [h55]),
  e_bin (za rfl) zc (za rfl) (r_cmp (congrArg some e56)),
  e_fb (show pV (.bool v56)=_ by rw [h57]),
  e_bin (za rfl) zc (za rfl) (r_cmp (congrArg some e58)),
  e_fb (show pV (.bool v58)=_ by rw [h59]),
  e_op2 (za rfl) (za rfl) (za rfl) (fun W=>by rw [← e60];exact zK W),
  e_bin (za rfl) zc (za rfl) (r_cmp (congrArg some e61)),
  e_fb (show pV (.bool v61)=_ by rw [h62]),
  e_bin (za rfl) zc (za rfl) (r_cmp (congrArg some e63)),
  e_fb (show pV (.bool v63)=_ by rw [h64]),
  e_bin (za rfl) zc (za rfl) (r_cmp (congrArg some e65)),
  trivial⟩ mixed ⟨zR,zD (c:=cI) (fun _=>rfl) (by decide) zf rfl rfl,trivial⟩ (fun _ _ _ _ _ hs=>by cases hs) (by kernel_rfl)) rfl rfl rfl rfl
theorem ze9 {w0:World} (c:(List Int)) (c0:Int) (c1:Int) (c2:Int) (c3:Int) (c4:Int) (c5:Int) (d:(List Int)) (d0:Int) (d1:Int) (d2:Int) (d3:Int) (d4:Int) (d5:Int) (x:(List Int)) (z:Int) (hL:LibT w0) (v1:Int) (v2:Int) (n3:Nat) (v5:(List Int)) (v7:(List Int)) (v9:(List Int)) (n11:Nat) (v13:(List Int)) (v15:Xp) (v18:Xp) (v21:Int) (v22:Int) (v24:Int) (v25:Int) (v27:Int) (v28:Int) (v29:Int) (v30:Xp) (v31:Int) (v32:Int) (v34:Int) (v37:Bool) (v39:Bool) (v41:Bool) (v43:Bool) (v45:Bool) (v47:Bool) (v49:Bool) (v50:Bool) (v52:Bool) (v54:Bool) (v56:Bool) (v58:Bool) (v60:Bool) (v62:Int) (v63:Bool) (v65:Bool) (v67:Bool) (e1:((x.length:Int))=v1) (e2:((if (3:Int)<v1 then (3:Int) else v1))=v2) (e5:(x.take n3)=v5) (e7:(([]:List Int)++v5)=v7) (e9:(v7++([(1:Int),(2:Int),(3:Int)]:List Int))=v9) (e13:(v9.take n11)=v13) (e15:(madE c)=v15) (e18:(madE d)=v18) (e21:((evalE v15 v13).1)=v21) (e22:((evalE v15 v13).2)=v22) (e24:((evalE v18 v13).1)=v24) (e25:((evalE v18 v13).2)=v25) (e27:(IntKind.i64.wrap z)=v27) (e28:((v27:Int).tmod (5:Int))=v28) (e29:(IntKind.i64.wrap ((3:Int)+v28))=v29) (e30:((Xp.mk v29 0 [v15,v18]))=v30) (e31:((evalE v30 v13).1)=v31) (e32:((evalE v30 v13).2)=v32) (e34:(sizeX v30 (30:Int))=v34) (e37:(decide (v34 > (30:Int)))=v37) (e39:((v22 != (0:Int)))=v39) (e41:((v22 != (3:Int)))=v41) (e43:((v25 != (0:Int)))=v43) (e45:((v22 == (0:Int)))=v45) (e47:((v25 == (0:Int)))=v47) (e49:(valB v24)=v49) (e50:(!v49)=v50) (e52:((v29 == (3:Int)))=v52) (e54:((v29 == (4:Int)))=v54) (e56:((v29 == (5:Int)))=v56) (e58:((v29 == (6:Int)))=v58) (e60:((v29 == (7:Int)))=v60) (e62:((if v24 > v21 then v24 else v21))=v62) (e63:((v22 != (0:Int)))=v63) (e65:((v32 == (3:Int)))=v65) (e67:((v31 == (0:Int)))=v67) (s4:v2=(n3:Int)) (s6:n3≤x.length) (s8:(([]:List Int).length+v5.length)*1≤1099511627776) (s10:(v7.length+([(1:Int),(2:Int),(3:Int)]:List Int).length)*1≤1099511627776) (s12:(3:Int)=(n11:Int)) (s14:n11≤v9.length) (s16:(3:Int)=3) (s17:c.length<9223372036854775807) (s19:(3:Int)=3) (s20:d.length<9223372036854775807) (s23:nodes v15≤1000000) (s26:nodes v18≤1000000) (s33:nodes v30≤1000000) (s35:nodes v30≤1000000) (s36:0≤(30:Int)∧(30:Int)≤1000) (h38:v37=false) (h40:v39=true) (h42:v41=false) (h44:v43=false) (h46:v45=false) (h48:v47=true) (h51:v50=false) (h53:v52=false) (h55:v54=false) (h57:v56=false) (h59:v58=false) (h61:v60=true) (h64:v63=true) (h66:v65=true):Fun (KN w0) Tryd.prog 5 [.o (.g [pLs cI c,pI c0,pI c1,pI c2,pI c3,pI c4,pI c5]),.o (.g [pLs cI d,pI d0,pI d1,pI d2,pI d3,pI d4,pI d5]),.o (.c (pLs cI x)),.o (.c (pV (.int .u8 z)))] (.o (.c (pB v67))):=
 zj (zA (F:=FL [pLs cI c,pI c0,pI c1,pI c2,pI c3,pI c4,pI c5,pLs cI d,pI d0,pI d1,pI d2,pI d3,pI d4,pI d5,pLs cI x,pV (.int .u8 z),pI v1,pI v2,pLs cI v5,pLs cI v9,pLs cI v13,pI v15.op,pI v15.n,pLs cE v15.l,pI v18.op,pI v18.n,pLs cE v18.l,pI v21,pI v22,pI v24,pI v25,pI v27,pI v28,pI v29,pI v30.op,pI v30.n,pLs cE v30.l,pI v31,pI v32,pI v34,pB v37,pB v39,pB v41,pB v43,pB v45,pB v47,pB v49,pB v50,pB v52,pB v54,pB v56,pB v58,pB v60,pI v62,pB v63,pB v65,pB v67] [pG cI ([]:List Int),pG cI v7,pG cI v9]) (C:=((1000003,.call ⟨8,[],[],.o (.c (.k (.bool true))),[]⟩) ::
  (1000005,.glt 3 1 [] 0) ::
  (1000008,.op (.len [22] 3) [LF (.h 14)] [] (LF (.h 16))) ::
  (1000009,.op (.min [3,3] 3) [LF (.h 16),LF (.k (.int .i64 3))] [] (LF (.h 17))) ::
  (1000010,.op (.sc 22 false true false) [LF (.h 14),LF (.h 17)] [] (LF (.h 18))) ::
  (1000011,.app 3 1 5 0 1 (.o (.c (.h 18))) [] false) ::
  (1000013,.app 3 1 5 1 2 (.o (.c (.s 12 0 3 3))) [.bx 12 3 [.k (.int .i64 1),.k (.int .i64 2),.k (.int .i64 3)]] false) ::
  (1000014,.op (.sc 22 false true false) [LF (.h 19),LF (.k (.int .i64 3))] [] (LF (.h 20))) ::
  (1000018,.call ⟨19,[.o (.c (.h 0)),.o (.c (.k (.int .i64 3)))],[],.o (.g [.h 21,.h 22,.h 23]),[]⟩) ::
  (1000021,.call ⟨19,[.o (.c (.h 7)),.o (.c (.k (.int .i64 3)))],[],.o (.g [.h 24,.h 25,.h 26]),[]⟩) ::
  (1000028,.call ⟨13,[.o (.g [.h 21,.h 22,.h 23]),.o (.c (.h 20))],[],.t [.c (.h 27),.c (.h 28)],[]⟩) ::
  (1000036,.call ⟨13,[.o (.g [.h 24,.h 25,.h 26]),.o (.c (.h 20))],[],.t [.c (.h 29),.c (.h 30)],[]⟩) ::
  (1000043,.op (.cv 5 3) [LF (.h 15)] [] (LF (.h 31))) ::
  (1000044,.bin .rem 3 (LF (.h 31)) (LF (.k (.int .i64 5))) (LF (.h 32))) ::
  (1000045,.bin .add 3 (LF (.k (.int .i64 3))) (LF (.h 32)) (LF (.h 33))) ::
  (1000050,.call ⟨20,[.o (.c (.h 33)),.o (.g [.h 21,.h 22,.h 23]),.o (.g [.h 24,.h 25,.h 26])],[],.o (.g [.h 34,.h 35,.h 36]),[]⟩) ::
  (1000055,.call ⟨13,[.o (.g [.h 34,.h 35,.h 36]),.o (.c (.h 20))],[],.t [.c (.h 37),.c (.h 38)],[]⟩) ::
  (1000062,.call ⟨21,[.o (.g [.h 34,.h 35,.h 36]),.o (.c (.k (.int .i64 30)))],[],.o (.c (.h 39)),[]⟩) ::
  (1000063,.bin .gtr 3 (LF (.h 39)) (LF (.k (.int .i64 30))) (LF (.h 40))) ::
  (10040,.fb 40 false) ::
  (1000065,.bin .neq 33 (LF (.h 28)) (LF (.k (.int .i64 0))) (LF (.h 41))) ::
  (10041,.fb 41 true) ::
  (1000068,.bin .neq 33 (LF (.h 28)) (LF (.k (.int .i64 3))) (LF (.h 42))) ::
  (10042,.fb 42 false) ::
  (1000072,.bin .neq 33 (LF (.h 30)) (LF (.k (.int .i64 0))) (LF (.h 43))) ::
  (10043,.fb 43 false) ::
  (1000080,.bin .eql 33 (LF (.h 28)) (LF (.k (.int .i64 0))) (LF (.h 44))) ::
  (10044,.fb 44 false) ::
  (1000089,.bin .eql 33 (LF (.h 30)) (LF (.k (.int .i64 0))) (LF (.h 45))) ::
  (10045,.fb 45 true) ::
  (1000092,.call ⟨22,[.o (.c (.h 29))],[],.o (.c (.h 46)),[]⟩) ::
  (1000093,.un .not (LF (.h 46)) (LF (.h 47))) ::
  (10047,.fb 47 false) ::
  (1000098,.bin .eql 3 (LF (.h 33)) (LF (.k (.int .i64 3))) (LF (.h 48))) ::
  (10048,.fb 48 false) ::
  (1000100,.bin .eql 3 (LF (.h 33)) (LF (.k (.int .i64 4))) (LF (.h 49))) ::
  (10049,.fb 49 false) ::
  (1000102,.bin .eql 3 (LF (.h 33)) (LF (.k (.int .i64 5))) (LF (.h 50))) ::
  (10050,.fb 50 false) ::
  (1000104,.bin .eql 3 (LF (.h 33)) (LF (.k (.int .i64 6))) (LF (.h 51))) ::
  (10051,.fb 51 false) ::
  (1000106,.bin .eql 3 (LF (.h 33)) (LF (.k (.int .i64 7))) (LF (.h 52))) ::
  (10052,.fb 52 true) ::
  (1000110,.op (.max [3,3] 3) [LF (.h 27),LF (.h 29)] [] (LF (.h 53))) ::
  (1000113,.bin .neq 33 (LF (.h 28)) (LF (.k (.int .i64 0))) (LF (.h 54))) ::
  (10054,.fb 54 true) ::
  (1000126,.bin .eql 33 (LF (.h 38)) (LF (.k (.int .i64 3))) (LF (.h 55))) ::
  (10055,.fb 55 true) ::
  (1000130,.bin .eql 3 (LF (.h 37)) (LF (.k (.int .i64 0))) (LF (.h 56)))::[]:List (Nat×Ent))) (k:=⟨5,[.o (.g [.h 0,.h 1,.h 2,.h 3,.h 4,.h 5,.h 6]),.o (.g [.h 7,.h 8,.h 9,.h 10,.h 11,.h 12,.h 13]),.o (.c (.h 14)),.o (.c (.h 15))],[],.o (.c (.h 56)),[]⟩) ⟨[],[⟨1000002,[.gn 9],[],[]⟩,⟨2,.gl 5 3 1 2::[31].map (fun s=>.sl s (.o (.c (.gr 5)))),[31].map (fun s=>.sl s (.o (.c (.h 19)))),[5]⟩],0⟩ [] 0 (zi ⟨(ze zf),zb rfl,zb rfl,zb rfl,zb rfl,zb rfl,zb rfl,(ze zf),zb rfl,zb rfl,zb rfl,zb rfl,zb rfl,zb rfl,(ze zf),zb rfl,zb rfl,zb rfl,(ze zf),(ze zf),(ze zf),zb rfl,zb rfl,(ze (zh rfl)),zb rfl,zb rfl,(ze (zh rfl)),zb rfl,zb rfl,zb rfl,zb rfl,zb rfl,zb rfl,zb rfl,zb rfl,zb rfl,(ze (zh rfl)),zb rfl,zb rfl,zb rfl,zb rfl,zb rfl,zb rfl,zb rfl,zb rfl,zb rfl,zb rfl,zb rfl,zb rfl,zb rfl,zb rfl,zb rfl,zb rfl,zb rfl,zb rfl,zb rfl,zb rfl,trivial⟩ ⟨(zk zf),(zk zf),(zk zf),trivial⟩) ⟨zg (zH hL) rfl rfl rfl rfl,
  e_glt (c:=cI) (l:=([]:List Int)) rfl rfl (fun _ _ _ h=>h) rfl zf (by decide),
  zm (E:=3) (by kernel_rfl) (zd rfl) (za (by rw [← e1];rfl)),
  e_op2 (za rfl) zc (za rfl) (fun W=>by rw [← e2];exact zK W),
  zw (E:=3) (z:=1) (fun _=>rfl) (by kernel_rfl) (by kernel_rfl) (zd rfl) (za rfl) s4 s6 (zd (by rw [e5];rfl)),
  qi (c:=cI) zf (fun _=>rfl) rfl (by rw [e7];rfl) rfl s8,
  qj (c:=cI) (l2:=([(1:Int),(2:Int),(3:Int)]:List Int)) zf (fun _=>rfl) rfl (by rw [e9];rfl) rfl (fun _ _ _ h=>h) rfl rfl s10,
  zw (E:=3) (z:=1) (fun _=>rfl) (by kernel_rfl) (by kernel_rfl) (zd rfl) zc s12 s14 (zd (by rw [e13];rfl)),
  zg (zE c (3:Int) v15 e15 s16 s17) rfl rfl rfl rfl,
  zg (zE d (3:Int) v18 e18 s19 s20) rfl rfl rfl rfl,
  zg (zr v15 v13 v21 v22 e21 e22 s23) rfl rfl rfl rfl,
  zg (zr v18 v13 v24 v25 e24 e25 s26) rfl rfl rfl rfl,
  e_op1 (za rfl) (za rfl) (fun W=>by rw [← e27];exact r_cvi (by kernel_rfl) (by kernel_rfl) W),
  e_bin (za rfl) zc (za rfl) (r_ar ((zU (by decide)).trans (congrArg some e28))),
  e_bin zc (za rfl) (za rfl) (r_ar (congrArg some e29)),
  zg (x_opL v29 v15 v18 v30 e30) rfl rfl rfl rfl,
  zg (zr v30 v13 v31 v32 e31 e32 s33) rfl rfl rfl rfl,
  zg (zS v30 (30:Int) v34 e34 s35 s36) rfl rfl rfl rfl,
  e_bin (za rfl) zc (za rfl) (r_cmp (congrArg some e37)),
  e_fb (show pV (.bool v37)=_ by rw [h38]),
  e_bin (za rfl) zc (za rfl) (r_cmp (congrArg some e39)),
  e_fb (show pV (.bool v39)=_ by rw [h40]),
  e_bin (za rfl) zc (za rfl) (r_cmp (congrArg some e41)),
  e_fb (show pV (.bool v41)=_ by rw [h42]),
  e_bin (za rfl) zc (za rfl) (r_cmp (congrArg some e43)),
  e_fb (show pV (.bool v43)=_ by rw [h44]),
  e_bin (za rfl) zc (za rfl) (r_cmp (congrArg some e45)),
  e_fb (show pV (.bool v45)=_ by rw [h46]),
  e_bin (za rfl) zc (za rfl) (r_cmp (congrArg some e47)),
  e_fb (show pV (.bool v47)=_ by rw [h48]),
  zg (zy v24 v49 e49) rfl rfl rfl rfl,
  e_un (za rfl) (za rfl) (fun W=>by rw [← e50];exact r_not W),
  e_fb (show pV (.bool v50)=_ by rw [h51]),
  e_bin (za rfl) zc (za rfl) (r_cmp (congrArg some e52)),
  e_fb (show pV (.bool v52)=_ by rw [h53]),
  e_bin (za rfl) zc (za rfl) (r_cmp (congrArg some e54)),
  e_fb (show pV (.bool v54)=_ by rw [h55]),
  e_bin (za rfl) zc (za rfl) (r_cmp (congrArg some e56)),
  e_fb (show pV (.bool v56)=_ by rw [h57]),
  e_bin (za rfl) zc (za rfl) (r_cmp (congrArg some e58)),
  e_fb (show pV (.bool v58)=_ by rw [h59]),
  e_bin (za rfl) zc (za rfl) (r_cmp (congrArg some e60)),
  e_fb (show pV (.bool v60)=_ by rw [h61]),
  e_op2 (za rfl) (za rfl) (za rfl) (fun W=>by rw [← e62];exact zcS W),
  e_bin (za rfl) zc (za rfl) (r_cmp (congrArg some e63)),
  e_fb (show pV (.bool v63)=_ by rw [h64]),
  e_bin (za rfl) zc (za rfl) (r_cmp (congrArg some e65)),
  e_fb (show pV (.bool v65)=_ by rw [h66]),
  e_bin (za rfl) zc (za rfl) (r_cmp (congrArg some e67)),
  trivial⟩ mixed ⟨zR,zD (c:=cI) (fun _=>rfl) (by decide) zf rfl rfl,trivial⟩ (fun _ _ _ _ _ hs=>by cases hs) (by kernel_rfl)) rfl rfl rfl rfl
theorem zfa {w0:World} (c:(List Int)) (c0:Int) (c1:Int) (c2:Int) (c3:Int) (c4:Int) (c5:Int) (d:(List Int)) (d0:Int) (d1:Int) (d2:Int) (d3:Int) (d4:Int) (d5:Int) (x:(List Int)) (z:Int) (hL:LibT w0) (v1:Int) (v2:Int) (n3:Nat) (v5:(List Int)) (v7:(List Int)) (v9:(List Int)) (n11:Nat) (v13:(List Int)) (v15:Xp) (v18:Xp) (v21:Int) (v22:Int) (v24:Int) (v25:Int) (v27:Int) (v28:Int) (v29:Int) (v30:Xp) (v31:Int) (v32:Int) (v34:Int) (v37:Bool) (v39:Bool) (v41:Bool) (v43:Bool) (v45:Bool) (v47:Bool) (v49:Bool) (v51:Bool) (v53:Int) (v54:Bool) (v56:Bool) (v58:Bool) (e1:((x.length:Int))=v1) (e2:((if (3:Int)<v1 then (3:Int) else v1))=v2) (e5:(x.take n3)=v5) (e7:(([]:List Int)++v5)=v7) (e9:(v7++([(1:Int),(2:Int),(3:Int)]:List Int))=v9) (e13:(v9.take n11)=v13) (e15:(madE c)=v15) (e18:(madE d)=v18) (e21:((evalE v15 v13).1)=v21) (e22:((evalE v15 v13).2)=v22) (e24:((evalE v18 v13).1)=v24) (e25:((evalE v18 v13).2)=v25) (e27:(IntKind.i64.wrap z)=v27) (e28:((v27:Int).tmod (5:Int))=v28) (e29:(IntKind.i64.wrap ((3:Int)+v28))=v29) (e30:((Xp.mk v29 0 [v15,v18]))=v30) (e31:((evalE v30 v13).1)=v31) (e32:((evalE v30 v13).2)=v32) (e34:(sizeX v30 (30:Int))=v34) (e37:(decide (v34 > (30:Int)))=v37) (e39:((v22 != (0:Int)))=v39) (e41:((v22 != (3:Int)))=v41) (e43:((v25 != (0:Int)))=v43) (e45:((v25 != (3:Int)))=v45) (e47:((v22 == (0:Int)))=v47) (e49:((v25 == (0:Int)))=v49) (e51:((v29 == (3:Int)))=v51) (e53:(IntKind.i64.wrap (v21+v24))=v53) (e54:((v22 != (0:Int)))=v54) (e56:((v32 == (3:Int)))=v56) (e58:((v31 == (0:Int)))=v58) (s4:v2=(n3:Int)) (s6:n3≤x.length) (s8:(([]:List Int).length+v5.length)*1≤1099511627776) (s10:(v7.length+([(1:Int),(2:Int),(3:Int)]:List Int).length)*1≤1099511627776) (s12:(3:Int)=(n11:Int)) (s14:n11≤v9.length) (s16:(3:Int)=3) (s17:c.length<9223372036854775807) (s19:(3:Int)=3) (s20:d.length<9223372036854775807) (s23:nodes v15≤1000000) (s26:nodes v18≤1000000) (s33:nodes v30≤1000000) (s35:nodes v30≤1000000) (s36:0≤(30:Int)∧(30:Int)≤1000) (h38:v37=false) (h40:v39=true) (h42:v41=false) (h44:v43=true) (h46:v45=false) (h48:v47=false) (h50:v49=false) (h52:v51=true) (h55:v54=true) (h57:v56=true):Fun (KN w0) Tryd.prog 5 [.o (.g [pLs cI c,pI c0,pI c1,pI c2,pI c3,pI c4,pI c5]),.o (.g [pLs cI d,pI d0,pI d1,pI d2,pI d3,pI d4,pI d5]),.o (.c (pLs cI x)),.o (.c (pV (.int .u8 z)))] (.o (.c (pB v58))):=
 zj (zA (F:=FL [pLs cI c,pI c0,pI c1,pI c2,pI c3,pI c4,pI c5,pLs cI d,pI d0,pI d1,pI d2,pI d3,pI d4,pI d5,pLs cI x,pV (.int .u8 z),pI v1,pI v2,pLs cI v5,pLs cI v9,pLs cI v13,pI v15.op,pI v15.n,pLs cE v15.l,pI v18.op,pI v18.n,pLs cE v18.l,pI v21,pI v22,pI v24,pI v25,pI v27,pI v28,pI v29,pI v30.op,pI v30.n,pLs cE v30.l,pI v31,pI v32,pI v34,pB v37,pB v39,pB v41,pB v43,pB v45,pB v47,pB v49,pB v51,pI v53,pB v54,pB v56,pB v58] [pG cI ([]:List Int),pG cI v7,pG cI v9]) (C:=((1000003,.call ⟨8,[],[],.o (.c (.k (.bool true))),[]⟩) ::
  (1000005,.glt 3 1 [] 0) ::
  (1000008,.op (.len [22] 3) [LF (.h 14)] [] (LF (.h 16))) ::
  (1000009,.op (.min [3,3] 3) [LF (.h 16),LF (.k (.int .i64 3))] [] (LF (.h 17))) ::
  (1000010,.op (.sc 22 false true false) [LF (.h 14),LF (.h 17)] [] (LF (.h 18))) ::
  (1000011,.app 3 1 5 0 1 (.o (.c (.h 18))) [] false) ::
  (1000013,.app 3 1 5 1 2 (.o (.c (.s 12 0 3 3))) [.bx 12 3 [.k (.int .i64 1),.k (.int .i64 2),.k (.int .i64 3)]] false) ::
  (1000014,.op (.sc 22 false true false) [LF (.h 19),LF (.k (.int .i64 3))] [] (LF (.h 20))) ::
  (1000018,.call ⟨19,[.o (.c (.h 0)),.o (.c (.k (.int .i64 3)))],[],.o (.g [.h 21,.h 22,.h 23]),[]⟩) ::
  (1000021,.call ⟨19,[.o (.c (.h 7)),.o (.c (.k (.int .i64 3)))],[],.o (.g [.h 24,.h 25,.h 26]),[]⟩) ::
  (1000028,.call ⟨13,[.o (.g [.h 21,.h 22,.h 23]),.o (.c (.h 20))],[],.t [.c (.h 27),.c (.h 28)],[]⟩) ::
  (1000036,.call ⟨13,[.o (.g [.h 24,.h 25,.h 26]),.o (.c (.h 20))],[],.t [.c (.h 29),.c (.h 30)],[]⟩) ::
  (1000043,.op (.cv 5 3) [LF (.h 15)] [] (LF (.h 31))) ::
  (1000044,.bin .rem 3 (LF (.h 31)) (LF (.k (.int .i64 5))) (LF (.h 32))) ::
  (1000045,.bin .add 3 (LF (.k (.int .i64 3))) (LF (.h 32)) (LF (.h 33))) ::
  (1000050,.call ⟨20,[.o (.c (.h 33)),.o (.g [.h 21,.h 22,.h 23]),.o (.g [.h 24,.h 25,.h 26])],[],.o (.g [.h 34,.h 35,.h 36]),[]⟩) ::
  (1000055,.call ⟨13,[.o (.g [.h 34,.h 35,.h 36]),.o (.c (.h 20))],[],.t [.c (.h 37),.c (.h 38)],[]⟩) ::
  (1000062,.call ⟨21,[.o (.g [.h 34,.h 35,.h 36]),.o (.c (.k (.int .i64 30)))],[],.o (.c (.h 39)),[]⟩) ::
  (1000063,.bin .gtr 3 (LF (.h 39)) (LF (.k (.int .i64 30))) (LF (.h 40))) ::
  (10040,.fb 40 false) ::
  (1000065,.bin .neq 33 (LF (.h 28)) (LF (.k (.int .i64 0))) (LF (.h 41))) ::
  (10041,.fb 41 true) ::
  (1000068,.bin .neq 33 (LF (.h 28)) (LF (.k (.int .i64 3))) (LF (.h 42))) ::
  (10042,.fb 42 false) ::
  (1000072,.bin .neq 33 (LF (.h 30)) (LF (.k (.int .i64 0))) (LF (.h 43))) ::
  (10043,.fb 43 true) ::
  (1000075,.bin .neq 33 (LF (.h 30)) (LF (.k (.int .i64 3))) (LF (.h 44))) ::
  (10044,.fb 44 false) ::
  (1000080,.bin .eql 33 (LF (.h 28)) (LF (.k (.int .i64 0))) (LF (.h 45))) ::
  (10045,.fb 45 false) ::
  (1000089,.bin .eql 33 (LF (.h 30)) (LF (.k (.int .i64 0))) (LF (.h 46))) ::
  (10046,.fb 46 false) ::
  (1000098,.bin .eql 3 (LF (.h 33)) (LF (.k (.int .i64 3))) (LF (.h 47))) ::
  (10047,.fb 47 true) ::
  (1000102,.bin .add 3 (LF (.h 27)) (LF (.h 29)) (LF (.h 48))) ::
  (1000105,.bin .neq 33 (LF (.h 28)) (LF (.k (.int .i64 0))) (LF (.h 49))) ::
  (10049,.fb 49 true) ::
  (1000118,.bin .eql 33 (LF (.h 38)) (LF (.k (.int .i64 3))) (LF (.h 50))) ::
  (10050,.fb 50 true) ::
  (1000122,.bin .eql 3 (LF (.h 37)) (LF (.k (.int .i64 0))) (LF (.h 51)))::[]:List (Nat×Ent))) (k:=⟨5,[.o (.g [.h 0,.h 1,.h 2,.h 3,.h 4,.h 5,.h 6]),.o (.g [.h 7,.h 8,.h 9,.h 10,.h 11,.h 12,.h 13]),.o (.c (.h 14)),.o (.c (.h 15))],[],.o (.c (.h 51)),[]⟩) ⟨[],[⟨1000002,[.gn 9],[],[]⟩,⟨2,.gl 5 3 1 2::[31].map (fun s=>.sl s (.o (.c (.gr 5)))),[31].map (fun s=>.sl s (.o (.c (.h 19)))),[5]⟩],0⟩ [] 0 (zi ⟨(ze zf),zb rfl,zb rfl,zb rfl,zb rfl,zb rfl,zb rfl,(ze zf),zb rfl,zb rfl,zb rfl,zb rfl,zb rfl,zb rfl,(ze zf),zb rfl,zb rfl,zb rfl,(ze zf),(ze zf),(ze zf),zb rfl,zb rfl,(ze (zh rfl)),zb rfl,zb rfl,(ze (zh rfl)),zb rfl,zb rfl,zb rfl,zb rfl,zb rfl,zb rfl,zb rfl,zb rfl,zb rfl,(ze (zh rfl)),zb rfl,zb rfl,zb rfl,zb rfl,zb rfl,zb rfl,zb rfl,zb rfl,zb rfl,zb rfl,zb rfl,zb rfl,zb rfl,zb rfl,zb rfl,trivial⟩ ⟨(zk zf),(zk zf),(zk zf),trivial⟩) ⟨zg (zH hL) rfl rfl rfl rfl,
  e_glt (c:=cI) (l:=([]:List Int)) rfl rfl (fun _ _ _ h=>h) rfl zf (by decide),
  zm (E:=3) (by kernel_rfl) (zd rfl) (za (by rw [← e1];rfl)),
  e_op2 (za rfl) zc (za rfl) (fun W=>by rw [← e2];exact zK W),
  zw (E:=3) (z:=1) (fun _=>rfl) (by kernel_rfl) (by kernel_rfl) (zd rfl) (za rfl) s4 s6 (zd (by rw [e5];rfl)),
  qi (c:=cI) zf (fun _=>rfl) rfl (by rw [e7];rfl) rfl s8,
  qj (c:=cI) (l2:=([(1:Int),(2:Int),(3:Int)]:List Int)) zf (fun _=>rfl) rfl (by rw [e9];rfl) rfl (fun _ _ _ h=>h) rfl rfl s10,
  zw (E:=3) (z:=1) (fun _=>rfl) (by kernel_rfl) (by kernel_rfl) (zd rfl) zc s12 s14 (zd (by rw [e13];rfl)),
  zg (zE c (3:Int) v15 e15 s16 s17) rfl rfl rfl rfl,
  zg (zE d (3:Int) v18 e18 s19 s20) rfl rfl rfl rfl,
  zg (zr v15 v13 v21 v22 e21 e22 s23) rfl rfl rfl rfl,
  zg (zr v18 v13 v24 v25 e24 e25 s26) rfl rfl rfl rfl,
  e_op1 (za rfl) (za rfl) (fun W=>by rw [← e27];exact r_cvi (by kernel_rfl) (by kernel_rfl) W),
  e_bin (za rfl) zc (za rfl) (r_ar ((zU (by decide)).trans (congrArg some e28))),
  e_bin zc (za rfl) (za rfl) (r_ar (congrArg some e29)),
  zg (x_opL v29 v15 v18 v30 e30) rfl rfl rfl rfl,
  zg (zr v30 v13 v31 v32 e31 e32 s33) rfl rfl rfl rfl,
  zg (zS v30 (30:Int) v34 e34 s35 s36) rfl rfl rfl rfl,
  e_bin (za rfl) zc (za rfl) (r_cmp (congrArg some e37)),
  e_fb (show pV (.bool v37)=_ by rw [h38]),
  e_bin (za rfl) zc (za rfl) (r_cmp (congrArg some e39)),
  e_fb (show pV (.bool v39)=_ by rw [h40]),
  e_bin (za rfl) zc (za rfl) (r_cmp (congrArg some e41)),
  e_fb (show pV (.bool v41)=_ by rw [h42]),
  e_bin (za rfl) zc (za rfl) (r_cmp (congrArg some e43)),
  e_fb (show pV (.bool v43)=_ by rw [h44]),
  e_bin (za rfl) zc (za rfl) (r_cmp (congrArg some e45)),
  e_fb (show pV (.bool v45)=_ by rw [h46]),
  e_bin (za rfl) zc (za rfl) (r_cmp (congrArg some e47)),
  e_fb (show pV (.bool v47)=_ by rw [h48]),
  e_bin (za rfl) zc (za rfl) (r_cmp (congrArg some e49)),
  e_fb (show pV (.bool v49)=_ by rw [h50]),
  e_bin (za rfl) zc (za rfl) (r_cmp (congrArg some e51)),
  e_fb (show pV (.bool v51)=_ by rw [h52]),
  e_bin (za rfl) (za rfl) (za rfl) (r_ar (congrArg some e53)),
  e_bin (za rfl) zc (za rfl) (r_cmp (congrArg some e54)),
  e_fb (show pV (.bool v54)=_ by rw [h55]),
  e_bin (za rfl) zc (za rfl) (r_cmp (congrArg some e56)),
  e_fb (show pV (.bool v56)=_ by rw [h57]),
  e_bin (za rfl) zc (za rfl) (r_cmp (congrArg some e58)),
  trivial⟩ mixed ⟨zR,zD (c:=cI) (fun _=>rfl) (by decide) zf rfl rfl,trivial⟩ (fun _ _ _ _ _ hs=>by cases hs) (by kernel_rfl)) rfl rfl rfl rfl
theorem zfb {w0:World} (c:(List Int)) (c0:Int) (c1:Int) (c2:Int) (c3:Int) (c4:Int) (c5:Int) (d:(List Int)) (d0:Int) (d1:Int) (d2:Int) (d3:Int) (d4:Int) (d5:Int) (x:(List Int)) (z:Int) (hL:LibT w0) (v1:Int) (v2:Int) (n3:Nat) (v5:(List Int)) (v7:(List Int)) (v9:(List Int)) (n11:Nat) (v13:(List Int)) (v15:Xp) (v18:Xp) (v21:Int) (v22:Int) (v24:Int) (v25:Int) (v27:Int) (v28:Int) (v29:Int) (v30:Xp) (v31:Int) (v32:Int) (v34:Int) (v37:Bool) (v39:Bool) (v41:Bool) (v43:Bool) (v45:Bool) (v47:Bool) (v49:Bool) (v51:Bool) (v53:Bool) (v55:Int) (v56:Bool) (v58:Bool) (v60:Bool) (e1:((x.length:Int))=v1) (e2:((if (3:Int)<v1 then (3:Int) else v1))=v2) (e5:(x.take n3)=v5) (e7:(([]:List Int)++v5)=v7) (e9:(v7++([(1:Int),(2:Int),(3:Int)]:List Int))=v9) (e13:(v9.take n11)=v13) (e15:(madE c)=v15) (e18:(madE d)=v18) (e21:((evalE v15 v13).1)=v21) (e22:((evalE v15 v13).2)=v22) (e24:((evalE v18 v13).1)=v24) (e25:((evalE v18 v13).2)=v25) (e27:(IntKind.i64.wrap z)=v27) (e28:((v27:Int).tmod (5:Int))=v28) (e29:(IntKind.i64.wrap ((3:Int)+v28))=v29) (e30:((Xp.mk v29 0 [v15,v18]))=v30) (e31:((evalE v30 v13).1)=v31) (e32:((evalE v30 v13).2)=v32) (e34:(sizeX v30 (30:Int))=v34) (e37:(decide (v34 > (30:Int)))=v37) (e39:((v22 != (0:Int)))=v39) (e41:((v22 != (3:Int)))=v41) (e43:((v25 != (0:Int)))=v43) (e45:((v25 != (3:Int)))=v45) (e47:((v22 == (0:Int)))=v47) (e49:((v25 == (0:Int)))=v49) (e51:((v29 == (3:Int)))=v51) (e53:((v29 == (4:Int)))=v53) (e55:(IntKind.i64.wrap (v21 - v24))=v55) (e56:((v22 != (0:Int)))=v56) (e58:((v32 == (3:Int)))=v58) (e60:((v31 == (0:Int)))=v60) (s4:v2=(n3:Int)) (s6:n3≤x.length) (s8:(([]:List Int).length+v5.length)*1≤1099511627776) (s10:(v7.length+([(1:Int),(2:Int),(3:Int)]:List Int).length)*1≤1099511627776) (s12:(3:Int)=(n11:Int)) (s14:n11≤v9.length) (s16:(3:Int)=3) (s17:c.length<9223372036854775807) (s19:(3:Int)=3) (s20:d.length<9223372036854775807) (s23:nodes v15≤1000000) (s26:nodes v18≤1000000) (s33:nodes v30≤1000000) (s35:nodes v30≤1000000) (s36:0≤(30:Int)∧(30:Int)≤1000) (h38:v37=false) (h40:v39=true) (h42:v41=false) (h44:v43=true) (h46:v45=false) (h48:v47=false) (h50:v49=false) (h52:v51=false) (h54:v53=true) (h57:v56=true) (h59:v58=true):Fun (KN w0) Tryd.prog 5 [.o (.g [pLs cI c,pI c0,pI c1,pI c2,pI c3,pI c4,pI c5]),.o (.g [pLs cI d,pI d0,pI d1,pI d2,pI d3,pI d4,pI d5]),.o (.c (pLs cI x)),.o (.c (pV (.int .u8 z)))] (.o (.c (pB v60))):=
 zj (zA (F:=FL [pLs cI c,pI c0,pI c1,pI c2,pI c3,pI c4,pI c5,pLs cI d,pI d0,pI d1,pI d2,pI d3,pI d4,pI d5,pLs cI x,pV (.int .u8 z),pI v1,pI v2,pLs cI v5,pLs cI v9,pLs cI v13,pI v15.op,pI v15.n,pLs cE v15.l,pI v18.op,pI v18.n,pLs cE v18.l,pI v21,pI v22,pI v24,pI v25,pI v27,pI v28,pI v29,pI v30.op,pI v30.n,pLs cE v30.l,pI v31,pI v32,pI v34,pB v37,pB v39,pB v41,pB v43,pB v45,pB v47,pB v49,pB v51,pB v53,pI v55,pB v56,pB v58,pB v60] [pG cI ([]:List Int),pG cI v7,pG cI v9]) (C:=((1000003,.call ⟨8,[],[],.o (.c (.k (.bool true))),[]⟩) ::
  (1000005,.glt 3 1 [] 0) ::
  (1000008,.op (.len [22] 3) [LF (.h 14)] [] (LF (.h 16))) ::
  (1000009,.op (.min [3,3] 3) [LF (.h 16),LF (.k (.int .i64 3))] [] (LF (.h 17))) ::
  (1000010,.op (.sc 22 false true false) [LF (.h 14),LF (.h 17)] [] (LF (.h 18))) ::
  (1000011,.app 3 1 5 0 1 (.o (.c (.h 18))) [] false) ::
  (1000013,.app 3 1 5 1 2 (.o (.c (.s 12 0 3 3))) [.bx 12 3 [.k (.int .i64 1),.k (.int .i64 2),.k (.int .i64 3)]] false) ::
  (1000014,.op (.sc 22 false true false) [LF (.h 19),LF (.k (.int .i64 3))] [] (LF (.h 20))) ::
  (1000018,.call ⟨19,[.o (.c (.h 0)),.o (.c (.k (.int .i64 3)))],[],.o (.g [.h 21,.h 22,.h 23]),[]⟩) ::
  (1000021,.call ⟨19,[.o (.c (.h 7)),.o (.c (.k (.int .i64 3)))],[],.o (.g [.h 24,.h 25,.h 26]),[]⟩) ::
  (1000028,.call ⟨13,[.o (.g [.h 21,.h 22,.h 23]),.o (.c (.h 20))],[],.t [.c (.h 27),.c (.h 28)],[]⟩) ::
  (1000036,.call ⟨13,[.o (.g [.h 24,.h 25,.h 26]),.o (.c (.h 20))],[],.t [.c (.h 29),.c (.h 30)],[]⟩) ::
  (1000043,.op (.cv 5 3) [LF (.h 15)] [] (LF (.h 31))) ::
  (1000044,.bin .rem 3 (LF (.h 31)) (LF (.k (.int .i64 5))) (LF (.h 32))) ::
  (1000045,.bin .add 3 (LF (.k (.int .i64 3))) (LF (.h 32)) (LF (.h 33))) ::
  (1000050,.call ⟨20,[.o (.c (.h 33)),.o (.g [.h 21,.h 22,.h 23]),.o (.g [.h 24,.h 25,.h 26])],[],.o (.g [.h 34,.h 35,.h 36]),[]⟩) ::
  (1000055,.call ⟨13,[.o (.g [.h 34,.h 35,.h 36]),.o (.c (.h 20))],[],.t [.c (.h 37),.c (.h 38)],[]⟩) ::
  (1000062,.call ⟨21,[.o (.g [.h 34,.h 35,.h 36]),.o (.c (.k (.int .i64 30)))],[],.o (.c (.h 39)),[]⟩) ::
  (1000063,.bin .gtr 3 (LF (.h 39)) (LF (.k (.int .i64 30))) (LF (.h 40))) ::
  (10040,.fb 40 false) ::
  (1000065,.bin .neq 33 (LF (.h 28)) (LF (.k (.int .i64 0))) (LF (.h 41))) ::
  (10041,.fb 41 true) ::
  (1000068,.bin .neq 33 (LF (.h 28)) (LF (.k (.int .i64 3))) (LF (.h 42))) ::
  (10042,.fb 42 false) ::
  (1000072,.bin .neq 33 (LF (.h 30)) (LF (.k (.int .i64 0))) (LF (.h 43))) ::
  (10043,.fb 43 true) ::
  (1000075,.bin .neq 33 (LF (.h 30)) (LF (.k (.int .i64 3))) (LF (.h 44))) ::
  (10044,.fb 44 false) ::
  (1000080,.bin .eql 33 (LF (.h 28)) (LF (.k (.int .i64 0))) (LF (.h 45))) ::
  (10045,.fb 45 false) ::
  (1000089,.bin .eql 33 (LF (.h 30)) (LF (.k (.int .i64 0))) (LF (.h 46))) ::
  (10046,.fb 46 false) ::
  (1000098,.bin .eql 3 (LF (.h 33)) (LF (.k (.int .i64 3))) (LF (.h 47))) ::
  (10047,.fb 47 false) ::
  (1000100,.bin .eql 3 (LF (.h 33)) (LF (.k (.int .i64 4))) (LF (.h 48))) ::
  (10048,.fb 48 true) ::
  (1000104,.bin .sub 3 (LF (.h 27)) (LF (.h 29)) (LF (.h 49))) ::
  (1000107,.bin .neq 33 (LF (.h 28)) (LF (.k (.int .i64 0))) (LF (.h 50))) ::
  (10050,.fb 50 true) ::
  (1000120,.bin .eql 33 (LF (.h 38)) (LF (.k (.int .i64 3))) (LF (.h 51))) ::
  (10051,.fb 51 true) ::
  (1000124,.bin .eql 3 (LF (.h 37)) (LF (.k (.int .i64 0))) (LF (.h 52)))::[]:List (Nat×Ent))) (k:=⟨5,[.o (.g [.h 0,.h 1,.h 2,.h 3,.h 4,.h 5,.h 6]),.o (.g [.h 7,.h 8,.h 9,.h 10,.h 11,.h 12,.h 13]),.o (.c (.h 14)),.o (.c (.h 15))],[],.o (.c (.h 52)),[]⟩) ⟨[],[⟨1000002,[.gn 9],[],[]⟩,⟨2,.gl 5 3 1 2::[31].map (fun s=>.sl s (.o (.c (.gr 5)))),[31].map (fun s=>.sl s (.o (.c (.h 19)))),[5]⟩],0⟩ [] 0 (zi ⟨(ze zf),zb rfl,zb rfl,zb rfl,zb rfl,zb rfl,zb rfl,(ze zf),zb rfl,zb rfl,zb rfl,zb rfl,zb rfl,zb rfl,(ze zf),zb rfl,zb rfl,zb rfl,(ze zf),(ze zf),(ze zf),zb rfl,zb rfl,(ze (zh rfl)),zb rfl,zb rfl,(ze (zh rfl)),zb rfl,zb rfl,zb rfl,zb rfl,zb rfl,zb rfl,zb rfl,zb rfl,zb rfl,(ze (zh rfl)),zb rfl,zb rfl,zb rfl,zb rfl,zb rfl,zb rfl,zb rfl,zb rfl,zb rfl,zb rfl,zb rfl,zb rfl,zb rfl,zb rfl,zb rfl,zb rfl,trivial⟩ ⟨(zk zf),(zk zf),(zk zf),trivial⟩) ⟨zg (zH hL) rfl rfl rfl rfl,
  e_glt (c:=cI) (l:=([]:List Int)) rfl rfl (fun _ _ _ h=>h) rfl zf (by decide),
  zm (E:=3) (by kernel_rfl) (zd rfl) (za (by rw [← e1];rfl)),
  e_op2 (za rfl) zc (za rfl) (fun W=>by rw [← e2];exact zK W),
  zw (E:=3) (z:=1) (fun _=>rfl) (by kernel_rfl) (by kernel_rfl) (zd rfl) (za rfl) s4 s6 (zd (by rw [e5];rfl)),
  qi (c:=cI) zf (fun _=>rfl) rfl (by rw [e7];rfl) rfl s8,
  qj (c:=cI) (l2:=([(1:Int),(2:Int),(3:Int)]:List Int)) zf (fun _=>rfl) rfl (by rw [e9];rfl) rfl (fun _ _ _ h=>h) rfl rfl s10,
  zw (E:=3) (z:=1) (fun _=>rfl) (by kernel_rfl) (by kernel_rfl) (zd rfl) zc s12 s14 (zd (by rw [e13];rfl)),
  zg (zE c (3:Int) v15 e15 s16 s17) rfl rfl rfl rfl,
  zg (zE d (3:Int) v18 e18 s19 s20) rfl rfl rfl rfl,
  zg (zr v15 v13 v21 v22 e21 e22 s23) rfl rfl rfl rfl,
  zg (zr v18 v13 v24 v25 e24 e25 s26) rfl rfl rfl rfl,
  e_op1 (za rfl) (za rfl) (fun W=>by rw [← e27];exact r_cvi (by kernel_rfl) (by kernel_rfl) W),
  e_bin (za rfl) zc (za rfl) (r_ar ((zU (by decide)).trans (congrArg some e28))),
  e_bin zc (za rfl) (za rfl) (r_ar (congrArg some e29)),
  zg (x_opL v29 v15 v18 v30 e30) rfl rfl rfl rfl,
  zg (zr v30 v13 v31 v32 e31 e32 s33) rfl rfl rfl rfl,
  zg (zS v30 (30:Int) v34 e34 s35 s36) rfl rfl rfl rfl,
  e_bin (za rfl) zc (za rfl) (r_cmp (congrArg some e37)),
  e_fb (show pV (.bool v37)=_ by rw [h38]),
  e_bin (za rfl) zc (za rfl) (r_cmp (congrArg some e39)),
  e_fb (show pV (.bool v39)=_ by rw [h40]),
  e_bin (za rfl) zc (za rfl) (r_cmp (congrArg some e41)),
  e_fb (show pV (.bool v41)=_ by rw [h42]),
  e_bin (za rfl) zc (za rfl) (r_cmp (congrArg some e43)),
  e_fb (show pV (.bool v43)=_ by rw [h44]),
  e_bin (za rfl) zc (za rfl) (r_cmp (congrArg some e45)),
  e_fb (show pV (.bool v45)=_ by rw [h46]),
  e_bin (za rfl) zc (za rfl) (r_cmp (congrArg some e47)),
  e_fb (show pV (.bool v47)=_ by rw [h48]),
  e_bin (za rfl) zc (za rfl) (r_cmp (congrArg some e49)),
  e_fb (show pV (.bool v49)=_ by rw [h50]),
  e_bin (za rfl) zc (za rfl) (r_cmp (congrArg some e51)),
  e_fb (show pV (.bool v51)=_ by rw [h52]),
  e_bin (za rfl) zc (za rfl) (r_cmp (congrArg some e53)),
  e_fb (show pV (.bool v53)=_ by rw [h54]),
  e_bin (za rfl) (za rfl) (za rfl) (r_ar (congrArg some e55)),
  e_bin (za rfl) zc (za rfl) (r_cmp (congrArg some e56)),
  e_fb (show pV (.bool v56)=_ by rw [h57]),
  e_bin (za rfl) zc (za rfl) (r_cmp (congrArg some e58)),
  e_fb (show pV (.bool v58)=_ by rw [h59]),
  e_bin (za rfl) zc (za rfl) (r_cmp (congrArg some e60)),
  trivial⟩ mixed ⟨zR,zD (c:=cI) (fun _=>rfl) (by decide) zf rfl rfl,trivial⟩ (fun _ _ _ _ _ hs=>by cases hs) (by kernel_rfl)) rfl rfl rfl rfl
theorem zfc {w0:World} (c:(List Int)) (c0:Int) (c1:Int) (c2:Int) (c3:Int) (c4:Int) (c5:Int) (d:(List Int)) (d0:Int) (d1:Int) (d2:Int) (d3:Int) (d4:Int) (d5:Int) (x:(List Int)) (z:Int) (hL:LibT w0) (v1:Int) (v2:Int) (n3:Nat) (v5:(List Int)) (v7:(List Int)) (v9:(List Int)) (n11:Nat) (v13:(List Int)) (v15:Xp) (v18:Xp) (v21:Int) (v22:Int) (v24:Int) (v25:Int) (v27:Int) (v28:Int) (v29:Int) (v30:Xp) (v31:Int) (v32:Int) (v34:Int) (v37:Bool) (v39:Bool) (v41:Bool) (v43:Bool) (v45:Bool) (v47:Bool) (v49:Bool) (v51:Bool) (v53:Bool) (v55:Bool) (v57:Int) (v58:Bool) (v60:Bool) (v62:Bool) (e1:((x.length:Int))=v1) (e2:((if (3:Int)<v1 then (3:Int) else v1))=v2) (e5:(x.take n3)=v5) (e7:(([]:List Int)++v5)=v7) (e9:(v7++([(1:Int),(2:Int),(3:Int)]:List Int))=v9) (e13:(v9.take n11)=v13) (e15:(madE c)=v15) (e18:(madE d)=v18) (e21:((evalE v15 v13).1)=v21) (e22:((evalE v15 v13).2)=v22) (e24:((evalE v18 v13).1)=v24) (e25:((evalE v18 v13).2)=v25) (e27:(IntKind.i64.wrap z)=v27) (e28:((v27:Int).tmod (5:Int))=v28) (e29:(IntKind.i64.wrap ((3:Int)+v28))=v29) (e30:((Xp.mk v29 0 [v15,v18]))=v30) (e31:((evalE v30 v13).1)=v31) (e32:((evalE v30 v13).2)=v32) (e34:(sizeX v30 (30:Int))=v34) (e37:(decide (v34 > (30:Int)))=v37) (e39:((v22 != (0:Int)))=v39) (e41:((v22 != (3:Int)))=v41) (e43:((v25 != (0:Int)))=v43) (e45:((v25 != (3:Int)))=v45) (e47:((v22 == (0:Int)))=v47) (e49:((v25 == (0:Int)))=v49) (e51:((v29 == (3:Int)))=v51) (e53:((v29 == (4:Int)))=v53) (e55:((v29 == (5:Int)))=v55) (e57:(IntKind.i64.wrap (v21*v24))=v57) (e58:((v22 != (0:Int)))=v58) (e60:((v32 == (3:Int)))=v60) (e62:((v31 == (0:Int)))=v62) (s4:v2=(n3:Int)) (s6:n3≤x.length) (s8:(([]:List Int).length+v5.length)*1≤1099511627776) (s10:(v7.length+([(1:Int),(2:Int),(3:Int)]:List Int).length)*1≤1099511627776) (s12:(3:Int)=(n11:Int)) (s14:n11≤v9.length) (s16:(3:Int)=3) (s17:c.length<9223372036854775807) (s19:(3:Int)=3) (s20:d.length<9223372036854775807) (s23:nodes v15≤1000000) (s26:nodes v18≤1000000) (s33:nodes v30≤1000000) (s35:nodes v30≤1000000) (s36:0≤(30:Int)∧(30:Int)≤1000) (h38:v37=false) (h40:v39=true) (h42:v41=false) (h44:v43=true) (h46:v45=false) (h48:v47=false) (h50:v49=false) (h52:v51=false) (h54:v53=false) (h56:v55=true) (h59:v58=true) (h61:v60=true):Fun (KN w0) Tryd.prog 5 [.o (.g [pLs cI c,pI c0,pI c1,pI c2,pI c3,pI c4,pI c5]),.o (.g [pLs cI d,pI d0,pI d1,pI d2,pI d3,pI d4,pI d5]),.o (.c (pLs cI x)),.o (.c (pV (.int .u8 z)))] (.o (.c (pB v62))):=
 zj (zA (F:=FL [pLs cI c,pI c0,pI c1,pI c2,pI c3,pI c4,pI c5,pLs cI d,pI d0,pI d1,pI d2,pI d3,pI d4,pI d5,pLs cI x,pV (.int .u8 z),pI v1,pI v2,pLs cI v5,pLs cI v9,pLs cI v13,pI v15.op,pI v15.n,pLs cE v15.l,pI v18.op,pI v18.n,pLs cE v18.l,pI v21,pI v22,pI v24,pI v25,pI v27,pI v28,pI v29,pI v30.op,pI v30.n,pLs cE v30.l,pI v31,pI v32,pI v34,pB v37,pB v39,pB v41,pB v43,pB v45,pB v47,pB v49,pB v51,pB v53,pB v55,pI v57,pB v58,pB v60,pB v62] [pG cI ([]:List Int),pG cI v7,pG cI v9]) (C:=((1000003,.call ⟨8,[],[],.o (.c (.k (.bool true))),[]⟩) ::
  (1000005,.glt 3 1 [] 0) ::
  (1000008,.op (.len [22] 3) [LF (.h 14)] [] (LF (.h 16))) ::
  (1000009,.op (.min [3,3] 3) [LF (.h 16),LF (.k (.int .i64 3))] [] (LF (.h 17))) ::
  (1000010,.op (.sc 22 false true false) [LF (.h 14),LF (.h 17)] [] (LF (.h 18))) ::
  (1000011,.app 3 1 5 0 1 (.o (.c (.h 18))) [] false) ::
  (1000013,.app 3 1 5 1 2 (.o (.c (.s 12 0 3 3))) [.bx 12 3 [.k (.int .i64 1),.k (.int .i64 2),.k (.int .i64 3)]] false) ::
  (1000014,.op (.sc 22 false true false) [LF (.h 19),LF (.k (.int .i64 3))] [] (LF (.h 20))) ::
  (1000018,.call ⟨19,[.o (.c (.h 0)),.o (.c (.k (.int .i64 3)))],[],.o (.g [.h 21,.h 22,.h 23]),[]⟩) ::
  (1000021,.call ⟨19,[.o (.c (.h 7)),.o (.c (.k (.int .i64 3)))],[],.o (.g [.h 24,.h 25,.h 26]),[]⟩) ::
  (1000028,.call ⟨13,[.o (.g [.h 21,.h 22,.h 23]),.o (.c (.h 20))],[],.t [.c (.h 27),.c (.h 28)],[]⟩) ::
  (1000036,.call ⟨13,[.o (.g [.h 24,.h 25,.h 26]),.o (.c (.h 20))],[],.t [.c (.h 29),.c (.h 30)],[]⟩) ::
  (1000043,.op (.cv 5 3) [LF (.h 15)] [] (LF (.h 31))) ::
  (1000044,.bin .rem 3 (LF (.h 31)) (LF (.k (.int .i64 5))) (LF (.h 32))) ::
  (1000045,.bin .add 3 (LF (.k (.int .i64 3))) (LF (.h 32)) (LF (.h 33))) ::
  (1000050,.call ⟨20,[.o (.c (.h 33)),.o (.g [.h 21,.h 22,.h 23]),.o (.g [.h 24,.h 25,.h 26])],[],.o (.g [.h 34,.h 35,.h 36]),[]⟩) ::
  (1000055,.call ⟨13,[.o (.g [.h 34,.h 35,.h 36]),.o (.c (.h 20))],[],.t [.c (.h 37),.c (.h 38)],[]⟩) ::
  (1000062,.call ⟨21,[.o (.g [.h 34,.h 35,.h 36]),.o (.c (.k (.int .i64 30)))],[],.o (.c (.h 39)),[]⟩) ::
  (1000063,.bin .gtr 3 (LF (.h 39)) (LF (.k (.int .i64 30))) (LF (.h 40))) ::
  (10040,.fb 40 false) ::
  (1000065,.bin .neq 33 (LF (.h 28)) (LF (.k (.int .i64 0))) (LF (.h 41))) ::
  (10041,.fb 41 true) ::
  (1000068,.bin .neq 33 (LF (.h 28)) (LF (.k (.int .i64 3))) (LF (.h 42))) ::
  (10042,.fb 42 false) ::
  (1000072,.bin .neq 33 (LF (.h 30)) (LF (.k (.int .i64 0))) (LF (.h 43))) ::
  (10043,.fb 43 true) ::
  (1000075,.bin .neq 33 (LF (.h 30)) (LF (.k (.int .i64 3))) (LF (.h 44))) ::
  (10044,.fb 44 false) ::
  (1000080,.bin .eql 33 (LF (.h 28)) (LF (.k (.int .i64 0))) (LF (.h 45))) ::
  (10045,.fb 45 false) ::
  (1000089,.bin .eql 33 (LF (.h 30)) (LF (.k (.int .i64 0))) (LF (.h 46))) ::
  (10046,.fb 46 false) ::
  (1000098,.bin .eql 3 (LF (.h 33)) (LF (.k (.int .i64 3))) (LF (.h 47))) ::
  (10047,.fb 47 false) ::
  (1000100,.bin .eql 3 (LF (.h 33)) (LF (.k (.int .i64 4))) (LF (.h 48))) ::
  (10048,.fb 48 false) ::
  (1000102,.bin .eql 3 (LF (.h 33)) (LF (.k (.int .i64 5))) (LF (.h 49))) ::
  (10049,.fb 49 true) ::
  (1000106,.bin .mul 3 (LF (.h 27)) (LF (.h 29)) (LF (.h 50))) ::
  (1000109,.bin .neq 33 (LF (.h 28)) (LF (.k (.int .i64 0))) (LF (.h 51))) ::
  (10051,.fb 51 true) ::
  (1000122,.bin .eql 33 (LF (.h 38)) (LF (.k (.int .i64 3))) (LF (.h 52))) ::
  (10052,.fb 52 true) ::
  (1000126,.bin .eql 3 (LF (.h 37)) (LF (.k (.int .i64 0))) (LF (.h 53)))::[]:List (Nat×Ent))) (k:=⟨5,[.o (.g [.h 0,.h 1,.h 2,.h 3,.h 4,.h 5,.h 6]),.o (.g [.h 7,.h 8,.h 9,.h 10,.h 11,.h 12,.h 13]),.o (.c (.h 14)),.o (.c (.h 15))],[],.o (.c (.h 53)),[]⟩) ⟨[],[⟨1000002,[.gn 9],[],[]⟩,⟨2,.gl 5 3 1 2::[31].map (fun s=>.sl s (.o (.c (.gr 5)))),[31].map (fun s=>.sl s (.o (.c (.h 19)))),[5]⟩],0⟩ [] 0 (zi ⟨(ze zf),zb rfl,zb rfl,zb rfl,zb rfl,zb rfl,zb rfl,(ze zf),zb rfl,zb rfl,zb rfl,zb rfl,zb rfl,zb rfl,(ze zf),zb rfl,zb rfl,zb rfl,(ze zf),(ze zf),(ze zf),zb rfl,zb rfl,(ze (zh rfl)),zb rfl,zb rfl,(ze (zh rfl)),zb rfl,zb rfl,zb rfl,zb rfl,zb rfl,zb rfl,zb rfl,zb rfl,zb rfl,(ze (zh rfl)),zb rfl,zb rfl,zb rfl,zb rfl,zb rfl,zb rfl,zb rfl,zb rfl,zb rfl,zb rfl,zb rfl,zb rfl,zb rfl,zb rfl,zb rfl,zb rfl,zb rfl,trivial⟩ ⟨(zk zf),(zk zf),(zk zf),trivial⟩) ⟨zg (zH hL) rfl rfl rfl rfl,
  e_glt (c:=cI) (l:=([]:List Int)) rfl rfl (fun _ _ _ h=>h) rfl zf (by decide),
  zm (E:=3) (by kernel_rfl) (zd rfl) (za (by rw [← e1];rfl)),
  e_op2 (za rfl) zc (za rfl) (fun W=>by rw [← e2];exact zK W),
  zw (E:=3) (z:=1) (fun _=>rfl) (by kernel_rfl) (by kernel_rfl) (zd rfl) (za rfl) s4 s6 (zd (by rw [e5];rfl)),
  qi (c:=cI) zf (fun _=>rfl) rfl (by rw [e7];rfl) rfl s8,
  qj (c:=cI) (l2:=([(1:Int),(2:Int),(3:Int)]:List Int)) zf (fun _=>rfl) rfl (by rw [e9];rfl) rfl (fun _ _ _ h=>h) rfl rfl s10,
  zw (E:=3) (z:=1) (fun _=>rfl) (by kernel_rfl) (by kernel_rfl) (zd rfl) zc s12 s14 (zd (by rw [e13];rfl)),
  zg (zE c (3:Int) v15 e15 s16 s17) rfl rfl rfl rfl,
  zg (zE d (3:Int) v18 e18 s19 s20) rfl rfl rfl rfl,
  zg (zr v15 v13 v21 v22 e21 e22 s23) rfl rfl rfl rfl,
  zg (zr v18 v13 v24 v25 e24 e25 s26) rfl rfl rfl rfl,
  e_op1 (za rfl) (za rfl) (fun W=>by rw [← e27];exact r_cvi (by kernel_rfl) (by kernel_rfl) W),
  e_bin (za rfl) zc (za rfl) (r_ar ((zU (by decide)).trans (congrArg some e28))),
  e_bin zc (za rfl) (za rfl) (r_ar (congrArg some e29)),
  zg (x_opL v29 v15 v18 v30 e30) rfl rfl rfl rfl,
  zg (zr v30 v13 v31 v32 e31 e32 s33) rfl rfl rfl rfl,
  zg (zS v30 (30:Int) v34 e34 s35 s36) rfl rfl rfl rfl,
  e_bin (za rfl) zc (za rfl) (r_cmp (congrArg some e37)),
  e_fb (show pV (.bool v37)=_ by rw [h38]),
  e_bin (za rfl) zc (za rfl) (r_cmp (congrArg some e39)),
  e_fb (show pV (.bool v39)=_ by rw [h40]),
  e_bin (za rfl) zc (za rfl) (r_cmp (congrArg some e41)),
  e_fb (show pV (.bool v41)=_ by rw [h42]),
  e_bin (za rfl) zc (za rfl) (r_cmp (congrArg some e43)),
  e_fb (show pV (.bool v43)=_ by rw [h44]),
  e_bin (za rfl) zc (za rfl) (r_cmp (congrArg some e45)),
  e_fb (show pV (.bool v45)=_ by rw [h46]),
  e_bin (za rfl) zc (za rfl) (r_cmp (congrArg some e47)),
  e_fb (show pV (.bool v47)=_ by rw [h48]),
  e_bin (za rfl) zc (za rfl) (r_cmp (congrArg some e49)),
  e_fb (show pV (.bool v49)=_ by rw [h50]),
  e_bin (za rfl) zc (za rfl) (r_cmp (congrArg some e51)),
  e_fb (show pV (.bool v51)=_ by rw [h52]),
  e_bin (za rfl) zc (za rfl) (r_cmp (congrArg some e53)),
  e_fb (show pV (.bool v53)=_ by rw [h54]),
  e_bin (za rfl) zc (za rfl) (r_cmp (congrArg some e55)),
  e_fb (show pV (.bool v55)=_ by rw [h56]),
  e_bin (za rfl) (za rfl) (za rfl) (r_ar (congrArg some e57)),
  e_bin (za rfl) zc (za rfl) (r_cmp (congrArg some e58)),
  e_fb (show pV (.bool v58)=_ by rw [h59]),
  e_bin (za rfl) zc (za rfl) (r_cmp (congrArg some e60)),
  e_fb (show pV (.bool v60)=_ by rw [h61]),
  e_bin (za rfl) zc (za rfl) (r_cmp (congrArg some e62)),
  trivial⟩ mixed ⟨zR,zD (c:=cI) (fun _=>rfl) (by decide) zf rfl rfl,trivial⟩ (fun _ _ _ _ _ hs=>by cases hs) (by kernel_rfl)) rfl rfl rfl rfl
theorem zfd {w0:World} (c:(List Int)) (c0:Int) (c1:Int) (c2:Int) (c3:Int) (c4:Int) (c5:Int) (d:(List Int)) (d0:Int) (d1:Int) (d2:Int) (d3:Int) (d4:Int) (d5:Int) (x:(List Int)) (z:Int) (hL:LibT w0) (v1:Int) (v2:Int) (n3:Nat) (v5:(List Int)) (v7:(List Int)) (v9:(List Int)) (n11:Nat) (v13:(List Int)) (v15:Xp) (v18:Xp) (v21:Int) (v22:Int) (v24:Int) (v25:Int) (v27:Int) (v28:Int) (v29:Int) (v30:Xp) (v31:Int) (v32:Int) (v34:Int) (v37:Bool) (v39:Bool) (v41:Bool) (v43:Bool) (v45:Bool) (v47:Bool) (v49:Bool) (v51:Bool) (v53:Bool) (v55:Bool) (v57:Bool) (v59:Int) (v60:Bool) (v62:Bool) (v64:Bool) (e1:((x.length:Int))=v1) (e2:((if (3:Int)<v1 then (3:Int) else v1))=v2) (e5:(x.take n3)=v5) (e7:(([]:List Int)++v5)=v7) (e9:(v7++([(1:Int),(2:Int),(3:Int)]:List Int))=v9) (e13:(v9.take n11)=v13) (e15:(madE c)=v15) (e18:(madE d)=v18) (e21:((evalE v15 v13).1)=v21) (e22:((evalE v15 v13).2)=v22) (e24:((evalE v18 v13).1)=v24) (e25:((evalE v18 v13).2)=v25) (e27:(IntKind.i64.wrap z)=v27) (e28:((v27:Int).tmod (5:Int))=v28) (e29:(IntKind.i64.wrap ((3:Int)+v28))=v29) (e30:((Xp.mk v29 0 [v15,v18]))=v30) (e31:((evalE v30 v13).1)=v31) (e32:((evalE v30 v13).2)=v32) (e34:(sizeX v30 (30:Int))=v34) (e37:(decide (v34 > (30:Int)))=v37) (e39:((v22 != (0:Int)))=v39) (e41:((v22 != (3:Int)))=v41) (e43:((v25 != (0:Int)))=v43) (e45:((v25 != (3:Int)))=v45) (e47:((v22 == (0:Int)))=v47) (e49:((v25 == (0:Int)))=v49) (e51:((v29 == (3:Int)))=v51) (e53:((v29 == (4:Int)))=v53) (e55:((v29 == (5:Int)))=v55) (e57:((v29 == (6:Int)))=v57) (e59:((if v24<v21 then v24 else v21))=v59) (e60:((v22 != (0:Int)))=v60) (e62:((v32 == (3:Int)))=v62) (e64:((v31 == (0:Int)))=v64) (s4:v2=(n3:Int)) (s6:n3≤x.length) (s8:(([]:List Int).length+v5.length)*1≤1099511627776) (s10:(v7.length+([(1:Int),(2:Int),(3:Int)]:List Int).length)*1≤1099511627776) (s12:(3:Int)=(n11:Int)) (s14:n11≤v9.length) (s16:(3:Int)=3) (s17:c.length<9223372036854775807) (s19:(3:Int)=3) (s20:d.length<9223372036854775807) (s23:nodes v15≤1000000) (s26:nodes v18≤1000000) (s33:nodes v30≤1000000) (s35:nodes v30≤1000000) (s36:0≤(30:Int)∧(30:Int)≤1000) (h38:v37=false) (h40:v39=true) (h42:v41=false) (h44:v43=true) (h46:v45=false) (h48:v47=false) (h50:v49=false) (h52:v51=false) (h54:v53=false) (h56:v55=false) (h58:v57=true) (h61:v60=true) (h63:v62=true):Fun (KN w0) Tryd.prog 5 [.o (.g [pLs cI c,pI c0,pI c1,pI c2,pI c3,pI c4,pI c5]),.o (.g [pLs cI d,pI d0,pI d1,pI d2,pI d3,pI d4,pI d5]),.o (.c (pLs cI x)),.o (.c (pV (.int .u8 z)))] (.o (.c (pB v64))):=
 zj (zA (F:=FL [pLs cI c,pI c0,pI c1,pI c2,pI c3,pI c4,pI c5,pLs cI d,pI d0,pI d1,pI d2,pI d3,pI d4,pI d5,pLs cI x,pV (.int .u8 z),pI v1,pI v2,pLs cI v5,pLs cI v9,pLs cI v13,pI v15.op,pI v15.n,pLs cE v15.l,pI v18.op,pI v18.n,pLs cE v18.l,pI v21,pI v22,pI v24,pI v25,pI v27,pI v28,pI v29,pI v30.op,pI v30.n,pLs cE v30.l,pI v31,pI v32,pI v34,pB v37,pB v39,pB v41,pB v43,pB v45,pB v47,pB v49,pB v51,pB v53,pB v55,pB v57,pI v59,pB v60,pB v62,pB v64] [pG cI ([]:List Int),pG cI v7,pG cI v9]) (C:=((1000003,.call ⟨8,[],[],.o (.c (.k (.bool true))),[]⟩) ::
  (1000005,.glt 3 1 [] 0) ::
  (1000008,.op (.len [22] 3) [LF (.h 14)] [] (LF (.h 16))) ::
  (1000009,.op (.min [3,3] 3) [LF (.h 16),LF (.k (.int .i64 3))] [] (LF (.h 17))) ::
  (1000010,.op (.sc 22 false true false) [LF (.h 14),LF (.h 17)] [] (LF (.h 18))) ::
  (1000011,.app 3 1 5 0 1 (.o (.c (.h 18))) [] false) ::
  (1000013,.app 3 1 5 1 2 (.o (.c (.s 12 0 3 3))) [.bx 12 3 [.k (.int .i64 1),.k (.int .i64 2),.k (.int .i64 3)]] false) ::
  (1000014,.op (.sc 22 false true false) [LF (.h 19),LF (.k (.int .i64 3))] [] (LF (.h 20))) ::
  (1000018,.call ⟨19,[.o (.c (.h 0)),.o (.c (.k (.int .i64 3)))],[],.o (.g [.h 21,.h 22,.h 23]),[]⟩) ::
  (1000021,.call ⟨19,[.o (.c (.h 7)),.o (.c (.k (.int .i64 3)))],[],.o (.g [.h 24,.h 25,.h 26]),[]⟩) ::
  (1000028,.call ⟨13,[.o (.g [.h 21,.h 22,.h 23]),.o (.c (.h 20))],[],.t [.c (.h 27),.c (.h 28)],[]⟩) ::
  (1000036,.call ⟨13,[.o (.g [.h 24,.h 25,.h 26]),.o (.c (.h 20))],[],.t [.c (.h 29),.c (.h 30)],[]⟩) ::
  (1000043,.op (.cv 5 3) [LF (.h 15)] [] (LF (.h 31))) ::
  (1000044,.bin .rem 3 (LF (.h 31)) (LF (.k (.int .i64 5))) (LF (.h 32))) ::
  (1000045,.bin .add 3 (LF (.k (.int .i64 3))) (LF (.h 32)) (LF (.h 33))) ::
  (1000050,.call ⟨20,[.o (.c (.h 33)),.o (.g [.h 21,.h 22,.h 23]),.o (.g [.h 24,.h 25,.h 26])],[],.o (.g [.h 34,.h 35,.h 36]),[]⟩) ::
  (1000055,.call ⟨13,[.o (.g [.h 34,.h 35,.h 36]),.o (.c (.h 20))],[],.t [.c (.h 37),.c (.h 38)],[]⟩) ::
  (1000062,.call ⟨21,[.o (.g [.h 34,.h 35,.h 36]),.o (.c (.k (.int .i64 30)))],[],.o (.c (.h 39)),[]⟩) ::
  (1000063,.bin .gtr 3 (LF (.h 39)) (LF (.k (.int .i64 30))) (LF (.h 40))) ::
  (10040,.fb 40 false) ::
  (1000065,.bin .neq 33 (LF (.h 28)) (LF (.k (.int .i64 0))) (LF (.h 41))) ::
  (10041,.fb 41 true) ::
  (1000068,.bin .neq 33 (LF (.h 28)) (LF (.k (.int .i64 3))) (LF (.h 42))) ::
  (10042,.fb 42 false) ::
  (1000072,.bin .neq 33 (LF (.h 30)) (LF (.k (.int .i64 0))) (LF (.h 43))) ::
  (10043,.fb 43 true) ::
  (1000075,.bin .neq 33 (LF (.h 30)) (LF (.k (.int .i64 3))) (LF (.h 44))) ::
  (10044,.fb 44 false) ::
  (1000080,.bin .eql 33 (LF (.h 28)) (LF (.k (.int .i64 0))) (LF (.h 45))) ::
  (10045,.fb 45 false) ::
  (1000089,.bin .eql 33 (LF (.h 30)) (LF (.k (.int .i64 0))) (LF (.h 46))) ::
  (10046,.fb 46 false) ::
  (1000098,.bin .eql 3 (LF (.h 33)) (LF (.k (.int .i64 3))) (LF (.h 47))) ::
  (10047,.fb 47 false) ::
  (1000100,.bin .eql 3 (LF (.h 33)) (LF (.k (.int .i64 4))) (LF (.h 48))) ::
  (10048,.fb 48 false) ::
  (1000102,.bin .eql 3 (LF (.h 33)) (LF (.k (.int .i64 5))) (LF (.h 49))) ::
  (10049,.fb 49 false) ::
  (1000104,.bin .eql 3 (LF (.h 33)) (LF (.k (.int .i64 6))) (LF (.h 50))) ::
  (10050,.fb 50 true) ::
  (1000108,.op (.min [3,3] 3) [LF (.h 27),LF (.h 29)] [] (LF (.h 51))) ::
  (1000111,.bin .neq 33 (LF (.h 28)) (LF (.k (.int .i64 0))) (LF (.h 52))) ::
  (10052,.fb 52 true) ::
  (1000124,.bin .eql 33 (LF (.h 38)) (LF (.k (.int .i64 3))) (LF (.h 53))) ::
  (10053,.fb 53 true) ::
  (1000128,.bin .eql 3 (LF (.h 37)) (LF (.k (.int .i64 0))) (LF (.h 54)))::[]:List (Nat×Ent))) (k:=⟨5,[.o (.g [.h 0,.h 1,.h 2,.h 3,.h 4,.h 5,.h 6]),.o (.g [.h 7,.h 8,.h 9,.h 10,.h 11,.h 12,.h 13]),.o (.c (.h 14)),.o (.c (.h 15))],[],.o (.c (.h 54)),[]⟩) ⟨[],[⟨1000002,[.gn 9],[],[]⟩,⟨2,.gl 5 3 1 2::[31].map (fun s=>.sl s (.o (.c (.gr 5)))),[31].map (fun s=>.sl s (.o (.c (.h 19)))),[5]⟩],0⟩ [] 0 (zi ⟨(ze zf),zb rfl,zb rfl,zb rfl,zb rfl,zb rfl,zb rfl,(ze zf),zb rfl,zb rfl,zb rfl,zb rfl,zb rfl,zb rfl,(ze zf),zb rfl,zb rfl,zb rfl,(ze zf),(ze zf),(ze zf),zb rfl,zb rfl,(ze (zh rfl)),zb rfl,zb rfl,(ze (zh rfl)),zb rfl,zb rfl,zb rfl,zb rfl,zb rfl,zb rfl,zb rfl,zb rfl,zb rfl,(ze (zh rfl)),zb rfl,zb rfl,zb rfl,zb rfl,zb rfl,zb rfl,zb rfl,zb rfl,zb rfl,zb rfl,zb rfl,zb rfl,zb rfl,zb rfl,zb rfl,zb rfl,zb rfl,zb rfl,trivial⟩ ⟨(zk zf),(zk zf),(zk zf),trivial⟩) ⟨zg (zH hL) rfl rfl rfl rfl,
  e_glt (c:=cI) (l:=([]:List Int)) rfl rfl (fun _ _ _ h=>h) rfl zf (by decide),
  zm (E:=3) (by kernel_rfl) (zd rfl) (za (by rw [← e1];rfl)),
  e_op2 (za rfl) zc (za rfl) (fun W=>by rw [← e2];exact zK W),
  zw (E:=3) (z:=1) (fun _=>rfl) (by kernel_rfl) (by kernel_rfl) (zd rfl) (za rfl) s4 s6 (zd (by rw [e5];rfl)),
  qi (c:=cI) zf (fun _=>rfl) rfl (by rw [e7];rfl) rfl s8,
  qj (c:=cI) (l2:=([(1:Int),(2:Int),(3:Int)]:List Int)) zf (fun _=>rfl) rfl (by rw [e9];rfl) rfl (fun _ _ _ h=>h) rfl rfl s10,
  zw (E:=3) (z:=1) (fun _=>rfl) (by kernel_rfl) (by kernel_rfl) (zd rfl) zc s12 s14 (zd (by rw [e13];rfl)),
  zg (zE c (3:Int) v15 e15 s16 s17) rfl rfl rfl rfl,
  zg (zE d (3:Int) v18 e18 s19 s20) rfl rfl rfl rfl,
  zg (zr v15 v13 v21 v22 e21 e22 s23) rfl rfl rfl rfl,
  zg (zr v18 v13 v24 v25 e24 e25 s26) rfl rfl rfl rfl,
  e_op1 (za rfl) (za rfl) (fun W=>by rw [← e27];exact r_cvi (by kernel_rfl) (by kernel_rfl) W),
  e_bin (za rfl) zc (za rfl) (r_ar ((zU (by decide)).trans (congrArg some e28))),
  e_bin zc (za rfl) (za rfl) (r_ar (congrArg some e29)),
  zg (x_opL v29 v15 v18 v30 e30) rfl rfl rfl rfl,
  zg (zr v30 v13 v31 v32 e31 e32 s33) rfl rfl rfl rfl,
  zg (zS v30 (30:Int) v34 e34 s35 s36) rfl rfl rfl rfl,
  e_bin (za rfl) zc (za rfl) (r_cmp (congrArg some e37)),
  e_fb (show pV (.bool v37)=_ by rw [h38]),
  e_bin (za rfl) zc (za rfl) (r_cmp (congrArg some e39)),
  e_fb (show pV (.bool v39)=_ by rw [h40]),
  e_bin (za rfl) zc (za rfl) (r_cmp (congrArg some e41)),
  e_fb (show pV (.bool v41)=_ by rw [h42]),
  e_bin (za rfl) zc (za rfl) (r_cmp (congrArg some e43)),
  e_fb (show pV (.bool v43)=_ by rw [h44]),
  e_bin (za rfl) zc (za rfl) (r_cmp (congrArg some e45)),
  e_fb (show pV (.bool v45)=_ by rw [h46]),
  e_bin (za rfl) zc (za rfl) (r_cmp (congrArg some e47)),
  e_fb (show pV (.bool v47)=_ by rw [h48]),
  e_bin (za rfl) zc (za rfl) (r_cmp (congrArg some e49)),
  e_fb (show pV (.bool v49)=_ by rw [h50]),
  e_bin (za rfl) zc (za rfl) (r_cmp (congrArg some e51)),
  e_fb (show pV (.bool v51)=_ by rw [h52]),
  e_bin (za rfl) zc (za rfl) (r_cmp (congrArg some e53)),
  e_fb (show pV (.bool v53)=_ by rw [h54]),
  e_bin (za rfl) zc (za rfl) (r_cmp (congrArg some e55)),
  e_fb (show pV (.bool v55)=_ by rw [h56]),
  e_bin (za rfl) zc (za rfl) (r_cmp (congrArg some e57)),
  e_fb (show pV (.bool v57)=_ by rw [h58]),
  e_op2 (za rfl) (za rfl) (za rfl) (fun W=>by rw [← e59];exact zK W),
  e_bin (za rfl) zc (za rfl) (r_cmp (congrArg some e60)),
  e_fb (show pV (.bool v60)=_ by rw [h61]),
  e_bin (za rfl) zc (za rfl) (r_cmp (congrArg some e62)),
  e_fb (show pV (.bool v62)=_ by rw [h63]),
  e_bin (za rfl) zc (za rfl) (r_cmp (congrArg some e64)),
  trivial⟩ mixed ⟨zR,zD (c:=cI) (fun _=>rfl) (by decide) zf rfl rfl,trivial⟩ (fun _ _ _ _ _ hs=>by cases hs) (by kernel_rfl)) rfl rfl rfl rfl
theorem zfe {w0:World} (c:(List Int)) (c0:Int) (c1:Int) (c2:Int) (c3:Int) (c4:Int) (c5:Int) (d:(List Int)) (d0:Int) (d1:Int) (d2:Int) (d3:Int) (d4:Int) (d5:Int) (x:(List Int)) (z:Int) (hL:LibT w0) (v1:Int) (v2:Int) (n3:Nat) (v5:(List Int)) (v7:(List Int)) (v9:(List Int)) (n11:Nat) (v13:(List Int)) (v15:Xp) (v18:Xp) (v21:Int) (v22:Int) (v24:Int) (v25:Int) (v27:Int) (v28:Int) (v29:Int) (v30:Xp) (v31:Int) (v32:Int) (v34:Int) (v37:Bool) (v39:Bool) (v41:Bool) (v43:Bool) (v45:Bool) (v47:Bool) (v49:Bool) (v51:Bool) (v53:Bool) (v55:Bool) (v57:Bool) (v59:Bool) (v61:Int) (v62:Bool) (v64:Bool) (v66:Bool) (e1:((x.length:Int))=v1) (e2:((if (3:Int)<v1 then (3:Int) else v1))=v2) (e5:(x.take n3)=v5) (e7:(([]:List Int)++v5)=v7) (e9:(v7++([(1:Int),(2:Int),(3:Int)]:List Int))=v9) (e13:(v9.take n11)=v13) (e15:(madE c)=v15) (e18:(madE d)=v18) (e21:((evalE v15 v13).1)=v21) (e22:((evalE v15 v13).2)=v22) (e24:((evalE v18 v13).1)=v24) (e25:((evalE v18 v13).2)=v25) (e27:(IntKind.i64.wrap z)=v27) (e28:((v27:Int).tmod (5:Int))=v28) (e29:(IntKind.i64.wrap ((3:Int)+v28))=v29) (e30:((Xp.mk v29 0 [v15,v18]))=v30) (e31:((evalE v30 v13).1)=v31) (e32:((evalE v30 v13).2)=v32) (e34:(sizeX v30 (30:Int))=v34) (e37:(decide (v34 > (30:Int)))=v37) (e39:((v22 != (0:Int)))=v39) (e41:((v22 != (3:Int)))=v41) (e43:((v25 != (0:Int)))=v43) (e45:((v25 != (3:Int)))=v45) (e47:((v22 == (0:Int)))=v47) (e49:((v25 == (0:Int)))=v49) (e51:((v29 == (3:Int)))=v51) (e53:((v29 == (4:Int)))=v53) (e55:((v29 == (5:Int)))=v55) (e57:((v29 == (6:Int)))=v57) (e59:((v29 == (7:Int)))=v59) (e61:((if v24 > v21 then v24 else v21))=v61) (e62:((v22 != (0:Int)))=v62) (e64:((v32 == (3:Int)))=v64) (e66:((v31 == (0:Int)))=v66) (s4:v2=(n3:Int)) (s6:n3≤x.length) (s8:(([]:List Int).length+v5.length)*1≤1099511627776) (s10:(v7.length+([(1:Int),(2:Int),(3:Int)]:List Int).length)*1≤1099511627776) (s12:(3:Int)=(n11:Int)) (s14:n11≤v9.length) (s16:(3:Int)=3) (s17:c.length<9223372036854775807) (s19:(3:Int)=3) (s20:d.length<9223372036854775807) (s23:nodes v15≤1000000) (s26:nodes v18≤1000000) (s33:nodes v30≤1000000) (s35:nodes v30≤1000000) (s36:0≤(30:Int)∧(30:Int)≤1000) (h38:v37=false) (h40:v39=true) (h42:v41=false) (h44:v43=true) (h46:v45=false) (h48:v47=false) (h50:v49=false) (h52:v51=false) (h54:v53=false) (h56:v55=false) (h58:v57=false) (h60:v59=true) (h63:v62=true) (h65:v64=true):Fun (KN w0) Tryd.prog 5 [.o (.g [pLs cI c,pI c0,pI c1,pI c2,pI c3,pI c4,pI c5]),.o (.g [pLs cI d,pI d0,pI d1,pI d2,pI d3,pI d4,pI d5]),.o (.c (pLs cI x)),.o (.c (pV (.int .u8 z)))] (.o (.c (pB v66))):=
 zj (zA (F:=FL [pLs cI c,pI c0,pI c1,pI c2,pI c3,pI c4,pI c5,pLs cI d,pI d0,pI d1,pI d2,pI d3,pI d4,pI d5,pLs cI x,pV (.int .u8 z),pI v1,pI v2,pLs cI v5,pLs cI v9,pLs cI v13,pI v15.op,pI v15.n,pLs cE v15.l,pI v18.op,pI v18.n,pLs cE v18.l,pI v21,pI v22,pI v24,pI v25,pI v27,pI v28,pI v29,pI v30.op,pI v30.n,pLs cE v30.l,pI v31,pI v32,pI v34,pB v37,pB v39,pB v41,pB v43,pB v45,pB v47,pB v49,pB v51,pB v53,pB v55,pB v57,pB v59,pI v61,pB v62,pB v64,pB v66] [pG cI ([]:List Int),pG cI v7,pG cI v9]) (C:=((1000003,.call ⟨8,[],[],.o (.c (.k (.bool true))),[]⟩) ::
  (1000005,.glt 3 1 [] 0) ::
  (1000008,.op (.len [22] 3) [LF (.h 14)] [] (LF (.h 16))) ::
  (1000009,.op (.min [3,3] 3) [LF (.h 16),LF (.k (.int .i64 3))] [] (LF (.h 17))) ::
  (1000010,.op (.sc 22 false true false) [LF (.h 14),LF (.h 17)] [] (LF (.h 18))) ::
  (1000011,.app 3 1 5 0 1 (.o (.c (.h 18))) [] false) ::
  (1000013,.app 3 1 5 1 2 (.o (.c (.s 12 0 3 3))) [.bx 12 3 [.k (.int .i64 1),.k (.int .i64 2),.k (.int .i64 3)]] false) ::
  (1000014,.op (.sc 22 false true false) [LF (.h 19),LF (.k (.int .i64 3))] [] (LF (.h 20))) ::
  (1000018,.call ⟨19,[.o (.c (.h 0)),.o (.c (.k (.int .i64 3)))],[],.o (.g [.h 21,.h 22,.h 23]),[]⟩) ::
  (1000021,.call ⟨19,[.o (.c (.h 7)),.o (.c (.k (.int .i64 3)))],[],.o (.g [.h 24,.h 25,.h 26]),[]⟩) ::
  (1000028,.call ⟨13,[.o (.g [.h 21,.h 22,.h 23]),.o (.c (.h 20))],[],.t [.c (.h 27),.c (.h 28)],[]⟩) ::
  (1000036,.call ⟨13,[.o (.g [.h 24,.h 25,.h 26]),.o (.c (.h 20))],[],.t [.c (.h 29),.c (.h 30)],[]⟩) ::
  (1000043,.op (.cv 5 3) [LF (.h 15)] [] (LF (.h 31))) ::
  (1000044,.bin .rem 3 (LF (.h 31)) (LF (.k (.int .i64 5))) (LF (.h 32))) ::
  (1000045,.bin .add 3 (LF (.k (.int .i64 3))) (LF (.h 32)) (LF (.h 33))) ::
  (1000050,.call ⟨20,[.o (.c (.h 33)),.o (.g [.h 21,.h 22,.h 23]),.o (.g [.h 24,.h 25,.h 26])],[],.o (.g [.h 34,.h 35,.h 36]),[]⟩) ::
  (1000055,.call ⟨13,[.o (.g [.h 34,.h 35,.h 36]),.o (.c (.h 20))],[],.t [.c (.h 37),.c (.h 38)],[]⟩) ::
  (1000062,.call ⟨21,[.o (.g [.h 34,.h 35,.h 36]),.o (.c (.k (.int .i64 30)))],[],.o (.c (.h 39)),[]⟩) ::
  (1000063,.bin .gtr 3 (LF (.h 39)) (LF (.k (.int .i64 30))) (LF (.h 40))) ::
  (10040,.fb 40 false) ::
  (1000065,.bin .neq 33 (LF (.h 28)) (LF (.k (.int .i64 0))) (LF (.h 41))) ::
  (10041,.fb 41 true) ::
  (1000068,.bin .neq 33 (LF (.h 28)) (LF (.k (.int .i64 3))) (LF (.h 42))) ::
  (10042,.fb 42 false) ::
  (1000072,.bin .neq 33 (LF (.h 30)) (LF (.k (.int .i64 0))) (LF (.h 43))) ::
  (10043,.fb 43 true) ::
  (1000075,.bin .neq 33 (LF (.h 30)) (LF (.k (.int .i64 3))) (LF (.h 44))) ::
  (10044,.fb 44 false) ::
  (1000080,.bin .eql 33 (LF (.h 28)) (LF (.k (.int .i64 0))) (LF (.h 45))) ::
  (10045,.fb 45 false) ::
  (1000089,.bin .eql 33 (LF (.h 30)) (LF (.k (.int .i64 0))) (LF (.h 46))) ::
  (10046,.fb 46 false) ::
  (1000098,.bin .eql 3 (LF (.h 33)) (LF (.k (.int .i64 3))) (LF (.h 47))) ::
  (10047,.fb 47 false) ::
  (1000100,.bin .eql 3 (LF (.h 33)) (LF (.k (.int .i64 4))) (LF (.h 48))) ::
  (10048,.fb 48 false) ::
  (1000102,.bin .eql 3 (LF (.h 33)) (LF (.k (.int .i64 5))) (LF (.h 49))) ::
  (10049,.fb 49 false) ::
  (1000104,.bin .eql 3 (LF (.h 33)) (LF (.k (.int .i64 6))) (LF (.h 50))) ::
  (10050,.fb 50 false) ::
  (1000106,.bin .eql 3 (LF (.h 33)) (LF (.k (.int .i64 7))) (LF (.h 51))) ::
  (10051,.fb 51 true) ::
  (1000110,.op (.max [3,3] 3) [LF (.h 27),LF (.h 29)] [] (LF (.h 52))) ::
  (1000113,.bin .neq 33 (LF (.h 28)) (LF (.k (.int .i64 0))) (LF (.h 53))) ::
  (10053,.fb 53 true) ::
  (1000126,.bin .eql 33 (LF (.h 38)) (LF (.k (.int .i64 3))) (LF (.h 54))) ::
  (10054,.fb 54 true) ::
  (1000130,.bin .eql 3 (LF (.h 37)) (LF (.k (.int .i64 0))) (LF (.h 55)))::[]:List (Nat×Ent))) (k:=⟨5,[.o (.g [.h 0,.h 1,.h 2,.h 3,.h 4,.h 5,.h 6]),.o (.g [.h 7,.h 8,.h 9,.h 10,.h 11,.h 12,.h 13]),.o (.c (.h 14)),.o (.c (.h 15))],[],.o (.c (.h 55)),[]⟩) ⟨[],[⟨1000002,[.gn 9],[],[]⟩,⟨2,.gl 5 3 1 2::[31].map (fun s=>.sl s (.o (.c (.gr 5)))),[31].map (fun s=>.sl s (.o (.c (.h 19)))),[5]⟩],0⟩ [] 0 (zi ⟨(ze zf),zb rfl,zb rfl,zb rfl,zb rfl,zb rfl,zb rfl,(ze zf),zb rfl,zb rfl,zb rfl,zb rfl,zb rfl,zb rfl,(ze zf),zb rfl,zb rfl,zb rfl,(ze zf),(ze zf),(ze zf),zb rfl,zb rfl,(ze (zh rfl)),zb rfl,zb rfl,(ze (zh rfl)),zb rfl,zb rfl,zb rfl,zb rfl,zb rfl,zb rfl,zb rfl,zb rfl,zb rfl,(ze (zh rfl)),zb rfl,zb rfl,zb rfl,zb rfl,zb rfl,zb rfl,zb rfl,zb rfl,zb rfl,zb rfl,zb rfl,zb rfl,zb rfl,zb rfl,zb rfl,zb rfl,zb rfl,zb rfl,zb rfl,trivial⟩ ⟨(zk zf),(zk zf),(zk zf),trivial⟩) ⟨zg (zH hL) rfl rfl rfl rfl,
  e_glt (c:=cI) (l:=([]:List Int)) rfl rfl (fun _ _ _ h=>h) rfl zf (by decide),
  zm (E:=3) (by kernel_rfl) (zd rfl) (za (by rw [← e1];rfl)),
  e_op2 (za rfl) zc (za rfl) (fun W=>by rw [← e2];exact zK W),
  zw (E:=3) (z:=1) (fun _=>rfl) (by kernel_rfl) (by kernel_rfl) (zd rfl) (za rfl) s4 s6 (zd (by rw [e5];rfl)),
  qi (c:=cI) zf (fun _=>rfl) rfl (by rw [e7];rfl) rfl s8,
  qj (c:=cI) (l2:=([(1:Int),(2:Int),(3:Int)]:List Int)) zf (fun _=>rfl) rfl (by rw [e9];rfl) rfl (fun _ _ _ h=>h) rfl rfl s10,
  zw (E:=3) (z:=1) (fun _=>rfl) (by kernel_rfl) (by kernel_rfl) (zd rfl) zc s12 s14 (zd (by rw [e13];rfl)),
  zg (zE c (3:Int) v15 e15 s16 s17) rfl rfl rfl rfl,
  zg (zE d (3:Int) v18 e18 s19 s20) rfl rfl rfl rfl,
  zg (zr v15 v13 v21 v22 e21 e22 s23) rfl rfl rfl rfl,
  zg (zr v18 v13 v24 v25 e24 e25 s26) rfl rfl rfl rfl,
  e_op1 (za rfl) (za rfl) (fun W=>by rw [← e27];exact r_cvi (by kernel_rfl) (by kernel_rfl) W),
  e_bin (za rfl) zc (za rfl) (r_ar ((zU (by decide)).trans (congrArg some e28))),
  e_bin zc (za rfl) (za rfl) (r_ar (congrArg some e29)),
  zg (x_opL v29 v15 v18 v30 e30) rfl rfl rfl rfl,
  zg (zr v30 v13 v31 v32 e31 e32 s33) rfl rfl rfl rfl,
  zg (zS v30 (30:Int) v34 e34 s35 s36) rfl rfl rfl rfl,
  e_bin (za rfl) zc (za rfl) (r_cmp (congrArg some e37)),
  e_fb (show pV (.bool v37)=_ by rw [h38]),
  e_bin (za rfl) zc (za rfl) (r_cmp (congrArg some e39)),
  e_fb (show pV (.bool v39)=_ by rw [h40]),
  e_bin (za rfl) zc (za rfl) (r_cmp (congrArg some e41)),
  e_fb (show pV (.bool v41)=_ by rw [h42]),
  e_bin (za rfl) zc (za rfl) (r_cmp (congrArg some e43)),
  e_fb (show pV (.bool v43)=_ by rw [h44]),
  e_bin (za rfl) zc (za rfl) (r_cmp (congrArg some e45)),
  e_fb (show pV (.bool v45)=_ by rw [h46]),
  e_bin (za rfl) zc (za rfl) (r_cmp (congrArg some e47)),
  e_fb (show pV (.bool v47)=_ by rw [h48]),
  e_bin (za rfl) zc (za rfl) (r_cmp (congrArg some e49)),
  e_fb (show pV (.bool v49)=_ by rw [h50]),
  e_bin (za rfl) zc (za rfl) (r_cmp (congrArg some e51)),
  e_fb (show pV (.bool v51)=_ by rw [h52]),
  e_bin (za rfl) zc (za rfl) (r_cmp (congrArg some e53)),
  e_fb (show pV (.bool v53)=_ by rw [h54]),
  e_bin (za rfl) zc (za rfl) (r_cmp (congrArg some e55)),
  e_fb (show pV (.bool v55)=_ by rw [h56]),
  e_bin (za rfl) zc (za rfl) (r_cmp (congrArg some e57)),
  e_fb (show pV (.bool v57)=_ by rw [h58]),
  e_bin (za rfl) zc (za rfl) (r_cmp (congrArg some e59)),
  e_fb (show pV (.bool v59)=_ by rw [h60]),
  e_op2 (za rfl) (za rfl) (za rfl) (fun W=>by rw [← e61];exact zcS W),
  e_bin (za rfl) zc (za rfl) (r_cmp (congrArg some e62)),
  e_fb (show pV (.bool v62)=_ by rw [h63]),
  e_bin (za rfl) zc (za rfl) (r_cmp (congrArg some e64)),
  e_fb (show pV (.bool v64)=_ by rw [h65]),
  e_bin (za rfl) zc (za rfl) (r_cmp (congrArg some e66)),
  trivial⟩ mixed ⟨zR,zD (c:=cI) (fun _=>rfl) (by decide) zf rfl rfl,trivial⟩ (fun _ _ _ _ _ hs=>by cases hs) (by kernel_rfl)) rfl rfl rfl rfl
end Go.Proofs.YtdkofaajcpcjkaaDoor
