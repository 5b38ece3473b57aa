/-
  Merged: WrW, WrCut0.
-/
import Derived.Test.YtjcegdldgjphiaaGreatDoorGkAZ
set_option linter.unusedSimpArgs false
set_option linter.unusedVariables false
namespace Go.Proofs.YtjcegdldgjphiaaGreatDoor
open Go.RowKit Go.Shelf
def readB (c:Int) (v:Val) (st:St):Bool:=if c=0 then decide ((rdI st).1=v.2.1) else if c=1 then decide ((rdT st).1=txV v) else if c=2 then decide ((rdL rdI st).1=inV v) else if c=3 then decide ((rdV st).1=v.2.2.2.2.1) else if c=4 then decide ((rdL rdP st).1=clV v) else decide ((rdR st).1=raV v)
def samV (c:Int) (v w:Val):Bool:=if c=0 then decide (v.2.1=w.2.1) else if c=1 then decide (txV v=txV w) else if c=2 then decide (inV v=inV w) else if c=3 then decide (v.2.2.2.2.1=w.2.2.2.2.1) else if c=4 then decide (clV v=clV w) else decide (raV v=raV w)
theorem zqp (v:Val):(inV v).length<9223372036854775808:=by unfold inV;rw [List.length_take];omega
theorem zqm (v:Val):(clV v).length<9223372036854775808:=by unfold clV;rw [List.length_take];omega
theorem zui {w0:World} (v_:Val) (st:St) (k:Int) (hM:LM w0) (hTS:LS w0) (v1:Int) (v2:Bool) (v4:Int) (v5:St) (v6:Bool) (e1:((k:Int).tmod (6:Int))=v1) (e2:((v1 == (0:Int)))=v2) (e4:((rdI st).1)=v4) (e5:((rdI st).2)=v5) (e6:((v4 == v_.2.1))=v6) (h3:v2=true):BFun false (KN w0) Tryz.prog 25 [.o (.g [.d (pV (.int .u8 v_.1)),.d (pI v_.2.1),.d (pS v_.2.2.1),.d (pLs cI v_.2.2.2.1),.d (pI v_.2.2.2.2.1.1),.d (pI v_.2.2.2.2.1.2.1),.d (pI v_.2.2.2.2.1.2.2),.d (pLs cPl v_.2.2.2.2.2.1),.d (pLs cI v_.2.2.2.2.2.2)]),.o (.c (.p 0 0)),.o (.c (.d (pV (.int .u8 k))))] [(62,[.d (pS (lfO st)),.d (pB (bdO st))])] (.o (.c (.d (pB v6)))) [(62,[.d (pS (lfO v5)),.d (pB (bdO v5))])] :=
 con_b (pan:=false) (zl (F:=FL [pV (.int .u8 v_.1),pI v_.2.1,pS v_.2.2.1,pLs cI v_.2.2.2.1,pI v_.2.2.2.2.1.1,pI v_.2.2.2.2.1.2.1,pI v_.2.2.2.2.1.2.2,pLs cPl v_.2.2.2.2.2.1,pLs cI v_.2.2.2.2.2.2,pS (lfO st),pB (bdO st),pV (.int .u8 k),pV (.int .u8 v1),pB v2,pI v4,pS (lfO v5),pB (bdO v5),pB v6] []) (C:=[(1000003,.bin .rem 5 (yh 11) (LF (.k (.int .u8 6))) (yh 12)),
  (1000004,.bin .eql 5 (yh 12) (LF (.k (.int .u8 0))) (yh 13)),
  (10013,.fb 13 true),
  (1000007,.call ⟨36,[.o (.c (.p 900 0))],[.bx 900 62 [.h 9,.h 10]],yh 14,[.bx 900 62 [.h 15,.h 16]]⟩),
  (1000010,.bin .eql 3 (yh 14) (yh 1) (yh 17))]) (k:=⟨25,[.o (.g [.h 0,.h 1,.h 2,.h 3,.h 4,.h 5,.h 6,.h 7,.h 8]),.o (.c (.p 900 0)),yh 11],[.bx 900 62 [.h 9,.h 10]],yh 17,[.bx 900 62 [.h 15,.h 16]]⟩) 0 (zf ⟨zb,zb,zb,(zt zo),zb,zb,zb,(zt zx),(zt zo),zb,zb,zb,zb,zb,zb,zb,zb,zb,trivial⟩) ⟨e_bin (za rfl) zd (za rfl) (r_ar ((zn2 (by decide)).trans (congrArg some e1))),
  e_bin (za rfl) zd (za rfl) (r_cmp (congrArg some e2)),
  e_fbv h3,
  b_con (pan:=false) (qu st v4 v5 e4 e5),
  e_bin (za rfl) (za rfl) (za rfl) (r_cmp (congrArg some e6)),
  trivial⟩ mixed (by kernel_rfl))
theorem zuj {w0:World} (v_:Val) (st:St) (k:Int) (hM:LM w0) (hTS:LS w0) (v1:Int) (v2:Bool) (v4:Bool) (v6:(List UInt8)) (v7:St) (v8:(List UInt8)) (v9:Bool) (e1:((k:Int).tmod (6:Int))=v1) (e2:((v1 == (0:Int)))=v2) (e4:((v1 == (1:Int)))=v4) (e6:((rdT st).1)=v6) (e7:((rdT st).2)=v7) (e8:(txV v_)=v8) (e9:(((v6:List UInt8) == v8))=v9) (h3:v2=false) (h5:v4=true):BFun false (KN w0) Tryz.prog 25 [.o (.g [.d (pV (.int .u8 v_.1)),.d (pI v_.2.1),.d (pS v_.2.2.1),.d (pLs cI v_.2.2.2.1),.d (pI v_.2.2.2.2.1.1),.d (pI v_.2.2.2.2.1.2.1),.d (pI v_.2.2.2.2.1.2.2),.d (pLs cPl v_.2.2.2.2.2.1),.d (pLs cI v_.2.2.2.2.2.2)]),.o (.c (.p 0 0)),.o (.c (.d (pV (.int .u8 k))))] [(62,[.d (pS (lfO st)),.d (pB (bdO st))])] (.o (.c (.d (pB v9)))) [(62,[.d (pS (lfO v7)),.d (pB (bdO v7))])] :=
 con_b (pan:=false) (zl (F:=FL [pV (.int .u8 v_.1),pI v_.2.1,pS v_.2.2.1,pLs cI v_.2.2.2.1,pI v_.2.2.2.2.1.1,pI v_.2.2.2.2.1.2.1,pI v_.2.2.2.2.1.2.2,pLs cPl v_.2.2.2.2.2.1,pLs cI v_.2.2.2.2.2.2,pS (lfO st),pB (bdO st),pV (.int .u8 k),pV (.int .u8 v1),pB v2,pB v4,pS v6,pS (lfO v7),pB (bdO v7),pS v8,pB v9] []) (C:=[(1000003,.bin .rem 5 (yh 11) (LF (.k (.int .u8 6))) (yh 12)),
  (1000004,.bin .eql 5 (yh 12) (LF (.k (.int .u8 0))) (yh 13)),
  (10013,.fb 13 false),
  (1000006,.bin .eql 5 (yh 12) (LF (.k (.int .u8 1))) (yh 14)),
  (10014,.fb 14 true),
  (1000009,.call ⟨51,[.o (.c (.p 900 0))],[.bx 900 62 [.h 9,.h 10]],yh 15,[.bx 900 62 [.h 16,.h 17]]⟩),
  (1000011,.call ⟨39,[.o (.g [.h 0,.h 1,.h 2,.h 3,.h 4,.h 5,.h 6,.h 7,.h 8])],[],yh 18,[]⟩),
  (1000012,.bin .eql 9 (yh 15) (yh 18) (yh 19))]) (k:=⟨25,[.o (.g [.h 0,.h 1,.h 2,.h 3,.h 4,.h 5,.h 6,.h 7,.h 8]),.o (.c (.p 900 0)),yh 11],[.bx 900 62 [.h 9,.h 10]],yh 19,[.bx 900 62 [.h 16,.h 17]]⟩) 0 (zf ⟨zb,zb,zb,(zt zo),zb,zb,zb,(zt zx),(zt zo),zb,zb,zb,zb,zb,zb,zb,zb,zb,zb,zb,trivial⟩) ⟨e_bin (za rfl) zd (za rfl) (r_ar ((zn2 (by decide)).trans (congrArg some e1))),
  e_bin (za rfl) zd (za rfl) (r_cmp (congrArg some e2)),
  e_fbv h3,
  e_bin (za rfl) zd (za rfl) (r_cmp (congrArg some e4)),
  e_fbv h5,
  b_con (pan:=false) (zcm st v6 v7 e6 e7),
  ze (zr4 v_ v8 e8),
  e_bin (za rfl) (za rfl) (za rfl) (fun W X Y=>by rw [← e9];exact r_seq W X Y),
  trivial⟩ mixed (by kernel_rfl))
theorem zuk {w0:World} (v_:Val) (st:St) (k:Int) (hM:LM w0) (hTS:LS w0) (v1:Int) (v2:Bool) (v4:Bool) (v6:Bool) (v8:(List Int)) (v9:St) (v11:(List Int)) (v12:Bool) (e1:((k:Int).tmod (6:Int))=v1) (e2:((v1 == (0:Int)))=v2) (e4:((v1 == (1:Int)))=v4) (e6:((v1 == (2:Int)))=v6) (e8:((rdL rdI st).1)=v8) (e9:((rdL rdI st).2)=v9) (e11:(inV v_)=v11) (e12:(decide (v8=v11))=v12) (h3:v2=false) (h5:v4=false) (h7:v6=true) (s10:leftN (rdC st).2≤1000000) (s13:v8.length<9223372036854775808):BFun false (KN w0) Tryz.prog 25 [.o (.g [.d (pV (.int .u8 v_.1)),.d (pI v_.2.1),.d (pS v_.2.2.1),.d (pLs cI v_.2.2.2.1),.d (pI v_.2.2.2.2.1.1),.d (pI v_.2.2.2.2.1.2.1),.d (pI v_.2.2.2.2.1.2.2),.d (pLs cPl v_.2.2.2.2.2.1),.d (pLs cI v_.2.2.2.2.2.2)]),.o (.c (.p 0 0)),.o (.c (.d (pV (.int .u8 k))))] [(62,[.d (pS (lfO st)),.d (pB (bdO st))])] (.o (.c (.d (pB v12)))) [(62,[.d (pS (lfO v9)),.d (pB (bdO v9))])] :=
 con_b (pan:=false) (zl (F:=FL [pV (.int .u8 v_.1),pI v_.2.1,pS v_.2.2.1,pLs cI v_.2.2.2.1,pI v_.2.2.2.2.1.1,pI v_.2.2.2.2.1.2.1,pI v_.2.2.2.2.1.2.2,pLs cPl v_.2.2.2.2.2.1,pLs cI v_.2.2.2.2.2.2,pS (lfO st),pB (bdO st),pV (.int .u8 k),pV (.int .u8 v1),pB v2,pB v4,pB v6,pLs cI v8,pS (lfO v9),pB (bdO v9),pLs cI v11,pB v12] []) (C:=[(1000003,.bin .rem 5 (yh 11) (LF (.k (.int .u8 6))) (yh 12)),
  (1000004,.bin .eql 5 (yh 12) (LF (.k (.int .u8 0))) (yh 13)),
  (10013,.fb 13 false),
  (1000006,.bin .eql 5 (yh 12) (LF (.k (.int .u8 1))) (yh 14)),
  (10014,.fb 14 false),
  (1000008,.bin .eql 5 (yh 12) (LF (.k (.int .u8 2))) (yh 15)),
  (10015,.fb 15 true),
  (1000011,.call ⟨35,[.o (.c (.p 900 0))],[.bx 900 62 [.h 9,.h 10]],yh 16,[.bx 900 62 [.h 17,.h 18]]⟩),
  (1000013,.call ⟨11,[.o (.g [.h 0,.h 1,.h 2,.h 3,.h 4,.h 5,.h 6,.h 7,.h 8])],[],yh 19,[]⟩),
  (1000014,.call ⟨37,[yh 16,yh 19],[],yh 20,[]⟩)]) (k:=⟨25,[.o (.g [.h 0,.h 1,.h 2,.h 3,.h 4,.h 5,.h 6,.h 7,.h 8]),.o (.c (.p 900 0)),yh 11],[.bx 900 62 [.h 9,.h 10]],yh 20,[.bx 900 62 [.h 17,.h 18]]⟩) 0 (zf ⟨zb,zb,zb,(zt zo),zb,zb,zb,(zt zx),(zt zo),zb,zb,zb,zb,zb,zb,zb,(zt zo),zb,zb,(zt zo),zb,trivial⟩) ⟨e_bin (za rfl) zd (za rfl) (r_ar ((zn2 (by decide)).trans (congrArg some e1))),
  e_bin (za rfl) zd (za rfl) (r_cmp (congrArg some e2)),
  e_fbv h3,
  e_bin (za rfl) zd (za rfl) (r_cmp (congrArg some e4)),
  e_fbv h5,
  e_bin (za rfl) zd (za rfl) (r_cmp (congrArg some e6)),
  e_fbv h7,
  b_con (pan:=false) (zhW st v8 v9 e8 e9 s10),
  ze (zq0 v_ v11 e11),
  ze (ziQ v8 v11 v12 e12 s13),
  trivial⟩ mixed (by kernel_rfl))
theorem zul {w0:World} (v_:Val) (st:St) (k:Int) (hM:LM w0) (hTS:LS w0) (v1:Int) (v2:Bool) (v4:Bool) (v6:Bool) (v8:Bool) (v10:V3) (v11:St) (v12:Bool) (e1:((k:Int).tmod (6:Int))=v1) (e2:((v1 == (0:Int)))=v2) (e4:((v1 == (1:Int)))=v4) (e6:((v1 == (2:Int)))=v6) (e8:((v1 == (3:Int)))=v8) (e10:((rdV st).1)=v10) (e11:((rdV st).2)=v11) (e12:(decide (v10=v_.2.2.2.2.1))=v12) (h3:v2=false) (h5:v4=false) (h7:v6=false) (h9:v8=true):BFun false (KN w0) Tryz.prog 25 [.o (.g [.d (pV (.int .u8 v_.1)),.d (pI v_.2.1),.d (pS v_.2.2.1),.d (pLs cI v_.2.2.2.1),.d (pI v_.2.2.2.2.1.1),.d (pI v_.2.2.2.2.1.2.1),.d (pI v_.2.2.2.2.1.2.2),.d (pLs cPl v_.2.2.2.2.2.1),.d (pLs cI v_.2.2.2.2.2.2)]),.o (.c (.p 0 0)),.o (.c (.d (pV (.int .u8 k))))] [(62,[.d (pS (lfO st)),.d (pB (bdO st))])] (.o (.c (.d (pB v12)))) [(62,[.d (pS (lfO v11)),.d (pB (bdO v11))])] :=
 con_b (pan:=false) (zl (F:=FL [pV (.int .u8 v_.1),pI v_.2.1,pS v_.2.2.1,pLs cI v_.2.2.2.1,pI v_.2.2.2.2.1.1,pI v_.2.2.2.2.1.2.1,pI v_.2.2.2.2.1.2.2,pLs cPl v_.2.2.2.2.2.1,pLs cI v_.2.2.2.2.2.2,pS (lfO st),pB (bdO st),pV (.int .u8 k),pV (.int .u8 v1),pB v2,pB v4,pB v6,pB v8,pI v10.1,pI v10.2.1,pI v10.2.2,pS (lfO v11),pB (bdO v11),pB v12] []) (C:=[(1000003,.bin .rem 5 (yh 11) (LF (.k (.int .u8 6))) (yh 12)),
  (1000004,.bin .eql 5 (yh 12) (LF (.k (.int .u8 0))) (yh 13)),
  (10013,.fb 13 false),
  (1000006,.bin .eql 5 (yh 12) (LF (.k (.int .u8 1))) (yh 14)),
  (10014,.fb 14 false),
  (1000008,.bin .eql 5 (yh 12) (LF (.k (.int .u8 2))) (yh 15)),
  (10015,.fb 15 false),
  (1000010,.bin .eql 5 (yh 12) (LF (.k (.int .u8 3))) (yh 16)),
  (10016,.fb 16 true),
  (1000013,.call ⟨54,[.o (.c (.p 900 0))],[.bx 900 62 [.h 9,.h 10]],.o (.g [.h 17,.h 18,.h 19]),[.bx 900 62 [.h 20,.h 21]]⟩),
  (1000016,.bin .eql 24 (.o (.g [.h 17,.h 18,.h 19])) (.o (.g [.h 4,.h 5,.h 6])) (yh 22))]) (k:=⟨25,[.o (.g [.h 0,.h 1,.h 2,.h 3,.h 4,.h 5,.h 6,.h 7,.h 8]),.o (.c (.p 900 0)),yh 11],[.bx 900 62 [.h 9,.h 10]],yh 22,[.bx 900 62 [.h 20,.h 21]]⟩) 0 (zf ⟨zb,zb,zb,(zt zo),zb,zb,zb,(zt zx),(zt zo),zb,zb,zb,zb,zb,zb,zb,zb,zb,zb,zb,zb,zb,zb,trivial⟩) ⟨e_bin (za rfl) zd (za rfl) (r_ar ((zn2 (by decide)).trans (congrArg some e1))),
  e_bin (za rfl) zd (za rfl) (r_cmp (congrArg some e2)),
  e_fbv h3,
  e_bin (za rfl) zd (za rfl) (r_cmp (congrArg some e4)),
  e_fbv h5,
  e_bin (za rfl) zd (za rfl) (r_cmp (congrArg some e6)),
  e_fbv h7,
  e_bin (za rfl) zd (za rfl) (r_cmp (congrArg some e8)),
  e_fbv h9,
  b_con (pan:=false) (zkE st v10 v11 e10 e11),
  e_eqV (x:=v10) (y:=v_.2.2.2.2.1) (neg:=false) ⟨(za rfl),(za rfl),(za rfl),trivial⟩ ⟨(za rfl),(za rfl),(za rfl),trivial⟩ (za (by rw [← e12];rfl)),
  trivial⟩ mixed (by kernel_rfl))
theorem zum {w0:World} (v_:Val) (st:St) (k:Int) (hM:LM w0) (hTS:LS w0) (v1:Int) (v2:Bool) (v4:Bool) (v6:Bool) (v8:Bool) (v10:Bool) (v12:(List Pl)) (v13:St) (v15:(List Pl)) (v16:Bool) (e1:((k:Int).tmod (6:Int))=v1) (e2:((v1 == (0:Int)))=v2) (e4:((v1 == (1:Int)))=v4) (e6:((v1 == (2:Int)))=v6) (e8:((v1 == (3:Int)))=v8) (e10:((v1 == (4:Int)))=v10) (e12:((rdL rdP st).1)=v12) (e13:((rdL rdP st).2)=v13) (e15:(clV v_)=v15) (e16:(decide (v12=v15))=v16) (h3:v2=false) (h5:v4=false) (h7:v6=false) (h9:v8=false) (h11:v10=true) (s14:leftN (rdC st).2≤1000000) (s17:v12.length<9223372036854775808):BFun false (KN w0) Tryz.prog 25 [.o (.g [.d (pV (.int .u8 v_.1)),.d (pI v_.2.1),.d (pS v_.2.2.1),.d (pLs cI v_.2.2.2.1),.d (pI v_.2.2.2.2.1.1),.d (pI v_.2.2.2.2.1.2.1),.d (pI v_.2.2.2.2.1.2.2),.d (pLs cPl v_.2.2.2.2.2.1),.d (pLs cI v_.2.2.2.2.2.2)]),.o (.c (.p 0 0)),.o (.c (.d (pV (.int .u8 k))))] [(62,[.d (pS (lfO st)),.d (pB (bdO st))])] (.o (.c (.d (pB v16)))) [(62,[.d (pS (lfO v13)),.d (pB (bdO v13))])] :=
 con_b (pan:=false) (zl (F:=FL [pV (.int .u8 v_.1),pI v_.2.1,pS v_.2.2.1,pLs cI v_.2.2.2.1,pI v_.2.2.2.2.1.1,pI v_.2.2.2.2.1.2.1,pI v_.2.2.2.2.1.2.2,pLs cPl v_.2.2.2.2.2.1,pLs cI v_.2.2.2.2.2.2,pS (lfO st),pB (bdO st),pV (.int .u8 k),pV (.int .u8 v1),pB v2,pB v4,pB v6,pB v8,pB v10,pLs cPl v12,pS (lfO v13),pB (bdO v13),pLs cPl v15,pB v16] []) (C:=[(1000003,.bin .rem 5 (yh 11) (LF (.k (.int .u8 6))) (yh 12)),
  (1000004,.bin .eql 5 (yh 12) (LF (.k (.int .u8 0))) (yh 13)),
  (10013,.fb 13 false),
  (1000006,.bin .eql 5 (yh 12) (LF (.k (.int .u8 1))) (yh 14)),
  (10014,.fb 14 false),
  (1000008,.bin .eql 5 (yh 12) (LF (.k (.int .u8 2))) (yh 15)),
  (10015,.fb 15 false),
  (1000010,.bin .eql 5 (yh 12) (LF (.k (.int .u8 3))) (yh 16)),
  (10016,.fb 16 false),
  (1000012,.bin .eql 5 (yh 12) (LF (.k (.int .u8 4))) (yh 17)),
  (10017,.fb 17 true),
  (1000015,.call ⟨57,[.o (.c (.p 900 0))],[.bx 900 62 [.h 9,.h 10]],yh 18,[.bx 900 62 [.h 19,.h 20]]⟩),
  (1000017,.call ⟨40,[.o (.g [.h 0,.h 1,.h 2,.h 3,.h 4,.h 5,.h 6,.h 7,.h 8])],[],yh 21,[]⟩),
  (1000018,.call ⟨56,[yh 18,yh 21],[],yh 22,[]⟩)]) (k:=⟨25,[.o (.g [.h 0,.h 1,.h 2,.h 3,.h 4,.h 5,.h 6,.h 7,.h 8]),.o (.c (.p 900 0)),yh 11],[.bx 900 62 [.h 9,.h 10]],yh 22,[.bx 900 62 [.h 19,.h 20]]⟩) 0 (zf ⟨zb,zb,zb,(zt zo),zb,zb,zb,(zt zx),(zt zo),zb,zb,zb,zb,zb,zb,zb,zb,zb,(zt zx),zb,zb,(zt zx),zb,trivial⟩) ⟨e_bin (za rfl) zd (za rfl) (r_ar ((zn2 (by decide)).trans (congrArg some e1))),
  e_bin (za rfl) zd (za rfl) (r_cmp (congrArg some e2)),
  e_fbv h3,
  e_bin (za rfl) zd (za rfl) (r_cmp (congrArg some e4)),
  e_fbv h5,
  e_bin (za rfl) zd (za rfl) (r_cmp (congrArg some e6)),
  e_fbv h7,
  e_bin (za rfl) zd (za rfl) (r_cmp (congrArg some e8)),
  e_fbv h9,
  e_bin (za rfl) zd (za rfl) (r_cmp (congrArg some e10)),
  e_fbv h11,
  b_con (pan:=false) (zl9 st v12 v13 e12 e13 s14),
  ze (zr3 v_ v15 e15),
  ze (zq1 v12 v15 v16 e16 s17),
  trivial⟩ mixed (by kernel_rfl))
theorem zun {w0:World} (v_:Val) (st:St) (k:Int) (hM:LM w0) (hTS:LS w0) (v1:Int) (v2:Bool) (v4:Bool) (v6:Bool) (v8:Bool) (v10:Bool) (v12:RR) (v13:St) (v15:RR) (v16:Bool) (e1:((k:Int).tmod (6:Int))=v1) (e2:((v1 == (0:Int)))=v2) (e4:((v1 == (1:Int)))=v4) (e6:((v1 == (2:Int)))=v6) (e8:((v1 == (3:Int)))=v8) (e10:((v1 == (4:Int)))=v10) (e12:((rdR st).1)=v12) (e13:((rdR st).2)=v13) (e15:(raV v_)=v15) (e16:(decide (v12=v15))=v16) (h3:v2=false) (h5:v4=false) (h7:v6=false) (h9:v8=false) (h11:v10=false) (s14:(rdT st).1.length<4294967281):BFun false (KN w0) Tryz.prog 25 [.o (.g [.d (pV (.int .u8 v_.1)),.d (pI v_.2.1),.d (pS v_.2.2.1),.d (pLs cI v_.2.2.2.1),.d (pI v_.2.2.2.2.1.1),.d (pI v_.2.2.2.2.1.2.1),.d (pI v_.2.2.2.2.1.2.2),.d (pLs cPl v_.2.2.2.2.2.1),.d (pLs cI v_.2.2.2.2.2.2)]),.o (.c (.p 0 0)),.o (.c (.d (pV (.int .u8 k))))] [(62,[.d (pS (lfO st)),.d (pB (bdO st))])] (.o (.c (.d (pB v16)))) [(62,[.d (pS (lfO v13)),.d (pB (bdO v13))])] :=
 con_b (pan:=false) (zl (F:=FL [pV (.int .u8 v_.1),pI v_.2.1,pS v_.2.2.1,pLs cI v_.2.2.2.1,pI v_.2.2.2.2.1.1,pI v_.2.2.2.2.1.2.1,pI v_.2.2.2.2.1.2.2,pLs cPl v_.2.2.2.2.2.1,pLs cI v_.2.2.2.2.2.2,pS (lfO st),pB (bdO st),pV (.int .u8 k),pV (.int .u8 v1),pB v2,pB v4,pB v6,pB v8,pB v10,pB v12.1.1,pD v12.1.2,pB v12.2.1,pD v12.2.2,pS (lfO v13),pB (bdO v13),pB v15.1.1,pD v15.1.2,pB v15.2.1,pD v15.2.2,pB v16] []) (C:=[(1000003,.bin .rem 5 (yh 11) (LF (.k (.int .u8 6))) (yh 12)),
  (1000004,.bin .eql 5 (yh 12) (LF (.k (.int .u8 0))) (yh 13)),
  (10013,.fb 13 false),
  (1000006,.bin .eql 5 (yh 12) (LF (.k (.int .u8 1))) (yh 14)),
  (10014,.fb 14 false),
  (1000008,.bin .eql 5 (yh 12) (LF (.k (.int .u8 2))) (yh 15)),
  (10015,.fb 15 false),
  (1000010,.bin .eql 5 (yh 12) (LF (.k (.int .u8 3))) (yh 16)),
  (10016,.fb 16 false),
  (1000012,.bin .eql 5 (yh 12) (LF (.k (.int .u8 4))) (yh 17)),
  (10017,.fb 17 false),
  (1000015,.call ⟨60,[.o (.c (.p 900 0))],[.bx 900 62 [.h 9,.h 10]],.o (.g [.h 18,.h 19,.h 20,.h 21]),[.bx 900 62 [.h 22,.h 23]]⟩),
  (1000017,.call ⟨41,[.o (.g [.h 0,.h 1,.h 2,.h 3,.h 4,.h 5,.h 6,.h 7,.h 8])],[],.o (.g [.h 24,.h 25,.h 26,.h 27]),[]⟩),
  (1000018,.call ⟨59,[.o (.g [.h 18,.h 19,.h 20,.h 21]),.o (.g [.h 24,.h 25,.h 26,.h 27])],[],yh 28,[]⟩)]) (k:=⟨25,[.o (.g [.h 0,.h 1,.h 2,.h 3,.h 4,.h 5,.h 6,.h 7,.h 8]),.o (.c (.p 900 0)),yh 11],[.bx 900 62 [.h 9,.h 10]],yh 28,[.bx 900 62 [.h 22,.h 23]]⟩) 0 (zf ⟨zb,zb,zb,(zt zo),zb,zb,zb,(zt zx),(zt zo),zb,zb,zb,zb,zb,zb,zb,zb,zb,zb,zj,zb,zj,zb,zb,zb,zj,zb,zj,zb,trivial⟩) ⟨e_bin (za rfl) zd (za rfl) (r_ar ((zn2 (by decide)).trans (congrArg some e1))),
  e_bin (za rfl) zd (za rfl) (r_cmp (congrArg some e2)),
  e_fbv h3,
  e_bin (za rfl) zd (za rfl) (r_cmp (congrArg some e4)),
  e_fbv h5,
  e_bin (za rfl) zd (za rfl) (r_cmp (congrArg some e6)),
  e_fbv h7,
  e_bin (za rfl) zd (za rfl) (r_cmp (congrArg some e8)),
  e_fbv h9,
  e_bin (za rfl) zd (za rfl) (r_cmp (congrArg some e10)),
  e_fbv h11,
  b_con (pan:=false) (zkD hM hTS st v12 v13 e12 e13 s14),
  ze (zqz v_ v15 e15),
  ze (zmq v12 v15 v16 e16),
  trivial⟩ mixed (by kernel_rfl))
theorem zwy {w0:World} (hM:LM w0) (hTS:LS w0) (v_:Val) (k:Int) (st:St) (r:Bool) (st2:St) (hr:readB (k.tmod 6) v_ st=r) (hs:callS (k.tmod 6) st=st2) (hle:leftN st≤1000000):BFun false (KN w0) Tryz.prog 25 [.o (.g [.d (pV (.int .u8 v_.1)),.d (pI v_.2.1),.d (pS v_.2.2.1),.d (pLs cI v_.2.2.2.1),.d (pI v_.2.2.2.2.1.1),.d (pI v_.2.2.2.2.1.2.1),.d (pI v_.2.2.2.2.1.2.2),.d (pLs cPl v_.2.2.2.2.2.1),.d (pLs cI v_.2.2.2.2.2.2)]),.o (.c (.p 0 0)),.o (.c (.d (pV (.int .u8 k))))] [(62,[.d (pS (lfO st)),.d (pB (bdO st))])] (.o (.c (.d (pB r)))) [(62,[.d (pS (lfO st2)),.d (pB (bdO st2))])]:=by
 obtain ⟨v1,e1⟩:∃v,((k:Int).tmod (6:Int))=v:=⟨_,rfl⟩
 obtain ⟨v2,e2⟩:∃v,((v1 == (0:Int)))=v:=⟨_,rfl⟩
 cases h3:v2 with
 | true =>
  obtain ⟨v4,e4⟩:∃v,((rdI st).1)=v:=⟨_,rfl⟩
  obtain ⟨v5,e5⟩:∃v,((rdI st).2)=v:=⟨_,rfl⟩
  obtain ⟨v6,e6⟩:∃v,((v4 == v_.2.1))=v:=⟨_,rfl⟩
  have r0:r=v6:=by
   have q0:=eq_of_beq (e2.trans h3)
   first | (rw [← hr];unfold readB;rw [e1];rw [if_pos q0];rw [e4];rw [← e6];first | done | rfl | (rw [Bool.eq_iff_iff];simp)) | (rw [← hs];unfold callS;rw [e1];rw [if_pos q0];exact e5)
  have r1:st2=v5:=by
   have q0:=eq_of_beq (e2.trans h3)
   first | (rw [← hr];unfold readB;rw [e1];rw [if_pos q0];rw [e4];rw [← e6];first | done | rfl | (rw [Bool.eq_iff_iff];simp)) | (rw [← hs];unfold callS;rw [e1];rw [if_pos q0];exact e5)
  rw [r0,r1];exact zui v_ st k hM hTS v1 v2 v4 v5 v6 e1 e2 e4 e5 e6 h3
 | false =>
  obtain ⟨v4,e4⟩:∃v,((v1 == (1:Int)))=v:=⟨_,rfl⟩
  cases h5:v4 with
  | true =>
   obtain ⟨v6,e6⟩:∃v,((rdT st).1)=v:=⟨_,rfl⟩
   obtain ⟨v7,e7⟩:∃v,((rdT st).2)=v:=⟨_,rfl⟩
   obtain ⟨v8,e8⟩:∃v,(txV v_)=v:=⟨_,rfl⟩
   obtain ⟨v9,e9⟩:∃v,(((v6:List UInt8) == v8))=v:=⟨_,rfl⟩
   have r0:r=v9:=by
    have q0:=ne_of_beq_false (e2.trans h3)
    have q1:=eq_of_beq (e4.trans h5)
    first | (rw [← hr];unfold readB;rw [e1];rw [if_neg q0,if_pos q1];rw [e6,e8];rw [← e9];first | done | rfl | (rw [Bool.eq_iff_iff];simp)) | (rw [← hs];unfold callS;rw [e1];rw [if_neg q0,if_pos q1];exact e7)
   have r1:st2=v7:=by
    have q0:=ne_of_beq_false (e2.trans h3)
    have q1:=eq_of_beq (e4.trans h5)
    first | (rw [← hr];unfold readB;rw [e1];rw [if_neg q0,if_pos q1];rw [e6,e8];rw [← e9];first | done | rfl | (rw [Bool.eq_iff_iff];simp)) | (rw [← hs];unfold callS;rw [e1];rw [if_neg q0,if_pos q1];exact e7)
   rw [r0,r1];exact zuj v_ st k hM hTS v1 v2 v4 v6 v7 v8 v9 e1 e2 e4 e6 e7 e8 e9 h3 h5
  | false =>
   obtain ⟨v6,e6⟩:∃v,((v1 == (2:Int)))=v:=⟨_,rfl⟩
   cases h7:v6 with
   | true =>
    obtain ⟨v8,e8⟩:∃v,((rdL rdI st).1)=v:=⟨_,rfl⟩
    obtain ⟨v9,e9⟩:∃v,((rdL rdI st).2)=v:=⟨_,rfl⟩
    have s10:leftN (rdC st).2≤1000000:=by exact Nat.le_trans (zd4 st) hle
    obtain ⟨v11,e11⟩:∃v,(inV v_)=v:=⟨_,rfl⟩
    obtain ⟨v12,e12⟩:∃v,(decide (v8=v11))=v:=⟨_,rfl⟩
    have s13:v8.length<9223372036854775808:=by (subst_vars;first | exact zqp _ | exact zqm _ | exact Nat.lt_of_le_of_lt (Nat.le_trans (zo8 zpF st).2 hle) (by decide) | exact Nat.lt_of_le_of_lt (Nat.le_trans (zo8 zqv st).2 hle) (by decide))
    have r0:r=v12:=by
     have q0:=ne_of_beq_false (e2.trans h3)
     have q1:=ne_of_beq_false (e4.trans h5)
     have q2:=eq_of_beq (e6.trans h7)
     first | (rw [← hr];unfold readB;rw [e1];rw [if_neg q0,if_neg q1,if_pos q2];rw [e8,e11];rw [← e12];first | done | rfl | (rw [Bool.eq_iff_iff];simp)) | (rw [← hs];unfold callS;rw [e1];rw [if_neg q0,if_neg q1,if_pos q2];exact e9)
    have r1:st2=v9:=by
     have q0:=ne_of_beq_false (e2.trans h3)
     have q1:=ne_of_beq_false (e4.trans h5)
     have q2:=eq_of_beq (e6.trans h7)
     first | (rw [← hr];unfold readB;rw [e1];rw [if_neg q0,if_neg q1,if_pos q2];rw [e8,e11];rw [← e12];first | done | rfl | (rw [Bool.eq_iff_iff];simp)) | (rw [← hs];unfold callS;rw [e1];rw [if_neg q0,if_neg q1,if_pos q2];exact e9)
    rw [r0,r1];exact zuk v_ st k hM hTS v1 v2 v4 v6 v8 v9 v11 v12 e1 e2 e4 e6 e8 e9 e11 e12 h3 h5 h7 s10 s13
   | false =>
    obtain ⟨v8,e8⟩:∃v,((v1 == (3:Int)))=v:=⟨_,rfl⟩
    cases h9:v8 with
    | true =>
     obtain ⟨v10,e10⟩:∃v,((rdV st).1)=v:=⟨_,rfl⟩
     obtain ⟨v11,e11⟩:∃v,((rdV st).2)=v:=⟨_,rfl⟩
     obtain ⟨v12,e12⟩:∃v,(decide (v10=v_.2.2.2.2.1))=v:=⟨_,rfl⟩
     have r0:r=v12:=by
      have q0:=ne_of_beq_false (e2.trans h3)
      have q1:=ne_of_beq_false (e4.trans h5)
      have q2:=ne_of_beq_false (e6.trans h7)
      have q3:=eq_of_beq (e8.trans h9)
      first | (rw [← hr];unfold readB;rw [e1];rw [if_neg q0,if_neg q1,if_neg q2,if_pos q3];rw [e10];rw [← e12];first | done | rfl | (rw [Bool.eq_iff_iff];simp)) | (rw [← hs];unfold callS;rw [e1];rw [if_neg q0,if_neg q1,if_neg q2,if_pos q3];exact e11)
     have r1:st2=v11:=by
      have q0:=ne_of_beq_false (e2.trans h3)
      have q1:=ne_of_beq_false (e4.trans h5)
      have q2:=ne_of_beq_false (e6.trans h7)
      have q3:=eq_of_beq (e8.trans h9)
      first | (rw [← hr];unfold readB;rw [e1];rw [if_neg q0,if_neg q1,if_neg q2,if_pos q3];rw [e10];rw [← e12];first | done | rfl | (rw [Bool.eq_iff_iff];simp)) | (rw [← hs];unfold callS;rw [e1];rw [if_neg q0,if_neg q1,if_neg q2,if_pos q3];exact e11)
     rw [r0,r1];exact zul v_ st k hM hTS v1 v2 v4 v6 v8 v10 v11 v12 e1 e2 e4 e6 e8 e10 e11 e12 h3 h5 h7 h9
    | false =>
     obtain ⟨v10,e10⟩:∃v,((v1 == (4:Int)))=v:=⟨_,rfl⟩
     cases h11:v10 with
     | true =>
      obtain ⟨v12,e12⟩:∃v,((rdL rdP st).1)=v:=⟨_,rfl⟩
      obtain ⟨v13,e13⟩:∃v,((rdL rdP st).2)=v:=⟨_,rfl⟩
      have s14:leftN (rdC st).2≤1000000:=by exact Nat.le_trans (zd4 st) hle
      obtain ⟨v15,e15⟩:∃v,(clV v_)=v:=⟨_,rfl⟩
      obtain ⟨v16,e16⟩:∃v,(decide (v12=v15))=v:=⟨_,rfl⟩
      have s17:v12.length<9223372036854775808:=by (subst_vars;first | exact zqp _ | exact zqm _ | exact Nat.lt_of_le_of_lt (Nat.le_trans (zo8 zpF st).2 hle) (by decide) | exact Nat.lt_of_le_of_lt (Nat.le_trans (zo8 zqv st).2 hle) (by decide))
      have r0:r=v16:=by
       have q0:=ne_of_beq_false (e2.trans h3)
       have q1:=ne_of_beq_false (e4.trans h5)
       have q2:=ne_of_beq_false (e6.trans h7)
       have q3:=ne_of_beq_false (e8.trans h9)
       have q4:=eq_of_beq (e10.trans h11)
       first | (rw [← hr];unfold readB;rw [e1];rw [if_neg q0,if_neg q1,if_neg q2,if_neg q3,if_pos q4];rw [e12,e15];rw [← e16];first | done | rfl | (rw [Bool.eq_iff_iff];simp)) | (rw [← hs];unfold callS;rw [e1];rw [if_neg q0,if_neg q1,if_neg q2,if_neg q3,if_pos q4];exact e13)
      have r1:st2=v13:=by
       have q0:=ne_of_beq_false (e2.trans h3)
       have q1:=ne_of_beq_false (e4.trans h5)
       have q2:=ne_of_beq_false (e6.trans h7)
       have q3:=ne_of_beq_false (e8.trans h9)
       have q4:=eq_of_beq (e10.trans h11)
       first | (rw [← hr];unfold readB;rw [e1];rw [if_neg q0,if_neg q1,if_neg q2,if_neg q3,if_pos q4];rw [e12,e15];rw [← e16];first | done | rfl | (rw [Bool.eq_iff_iff];simp)) | (rw [← hs];unfold callS;rw [e1];rw [if_neg q0,if_neg q1,if_neg q2,if_neg q3,if_pos q4];exact e13)
      rw [r0,r1];exact zum v_ st k hM hTS v1 v2 v4 v6 v8 v10 v12 v13 v15 v16 e1 e2 e4 e6 e8 e10 e12 e13 e15 e16 h3 h5 h7 h9 h11 s14 s17
     | false =>
      obtain ⟨v12,e12⟩:∃v,((rdR st).1)=v:=⟨_,rfl⟩
      obtain ⟨v13,e13⟩:∃v,((rdR st).2)=v:=⟨_,rfl⟩
      have s14:(rdT st).1.length<4294967281:=by exact Nat.lt_of_le_of_lt (Nat.le_trans (znp st) hle) (by decide)
      obtain ⟨v15,e15⟩:∃v,(raV v_)=v:=⟨_,rfl⟩
      obtain ⟨v16,e16⟩:∃v,(decide (v12=v15))=v:=⟨_,rfl⟩
      have r0:r=v16:=by
       have q0:=ne_of_beq_false (e2.trans h3)
       have q1:=ne_of_beq_false (e4.trans h5)
       have q2:=ne_of_beq_false (e6.trans h7)
       have q3:=ne_of_beq_false (e8.trans h9)
       have q4:=ne_of_beq_false (e10.trans h11)
       first | (rw [← hr];unfold readB;rw [e1];rw [if_neg q0,if_neg q1,if_neg q2,if_neg q3,if_neg q4];rw [e12,e15];rw [← e16];first | done | rfl | (rw [Bool.eq_iff_iff];simp)) | (rw [← hs];unfold callS;rw [e1];rw [if_neg q0,if_neg q1,if_neg q2,if_neg q3,if_neg q4];exact e13)
      have r1:st2=v13:=by
       have q0:=ne_of_beq_false (e2.trans h3)
       have q1:=ne_of_beq_false (e4.trans h5)
       have q2:=ne_of_beq_false (e6.trans h7)
       have q3:=ne_of_beq_false (e8.trans h9)
       have q4:=ne_of_beq_false (e10.trans h11)
       first | (rw [← hr];unfold readB;rw [e1];rw [if_neg q0,if_neg q1,if_neg q2,if_neg q3,if_neg q4];rw [e12,e15];rw [← e16];first | done | rfl | (rw [Bool.eq_iff_iff];simp)) | (rw [← hs];unfold callS;rw [e1];rw [if_neg q0,if_neg q1,if_neg q2,if_neg q3,if_neg q4];exact e13)
      rw [r0,r1];exact zun v_ st k hM hTS v1 v2 v4 v6 v8 v10 v12 v13 v15 v16 e1 e2 e4 e6 e8 e10 e12 e13 e15 e16 h3 h5 h7 h9 h11 s14
theorem zuo {w0:World} (v_:Val) (w_:Val) (k:Int) (v1:Int) (v2:Bool) (v4:Bool) (e1:((k:Int).tmod (6:Int))=v1) (e2:((v1 == (0:Int)))=v2) (e4:((v_.2.1 == w_.2.1))=v4) (h3:v2=true):Fun (KN w0) Tryz.prog 28 [.o (.g [pV (.int .u8 v_.1),pI v_.2.1,pS v_.2.2.1,pLs cI v_.2.2.2.1,pI v_.2.2.2.2.1.1,pI v_.2.2.2.2.1.2.1,pI v_.2.2.2.2.1.2.2,pLs cPl v_.2.2.2.2.2.1,pLs cI v_.2.2.2.2.2.2]),.o (.g [pV (.int .u8 w_.1),pI w_.2.1,pS w_.2.2.1,pLs cI w_.2.2.2.1,pI w_.2.2.2.2.1.1,pI w_.2.2.2.2.1.2.1,pI w_.2.2.2.2.1.2.2,pLs cPl w_.2.2.2.2.2.1,pLs cI w_.2.2.2.2.2.2]),.o (.c (pV (.int .u8 k)))] (.o (.c (pB v4))):=
 zi (zl (F:=FL [pV (.int .u8 v_.1),pI v_.2.1,pS v_.2.2.1,pLs cI v_.2.2.2.1,pI v_.2.2.2.2.1.1,pI v_.2.2.2.2.1.2.1,pI v_.2.2.2.2.1.2.2,pLs cPl v_.2.2.2.2.2.1,pLs cI v_.2.2.2.2.2.2,pV (.int .u8 w_.1),pI w_.2.1,pS w_.2.2.1,pLs cI w_.2.2.2.1,pI w_.2.2.2.2.1.1,pI w_.2.2.2.2.1.2.1,pI w_.2.2.2.2.1.2.2,pLs cPl w_.2.2.2.2.2.1,pLs cI w_.2.2.2.2.2.2,pV (.int .u8 k),pV (.int .u8 v1),pB v2,pB v4] []) (C:=[(1000004,.bin .rem 5 (yh 18) (LF (.k (.int .u8 6))) (yh 19)),
  (1000005,.bin .eql 5 (yh 19) (LF (.k (.int .u8 0))) (yh 20)),
  (10020,.fb 20 true),
  (1000011,.bin .eql 3 (yh 1) (yh 10) (yh 21))]) (k:=⟨28,[.o (.g [.h 0,.h 1,.h 2,.h 3,.h 4,.h 5,.h 6,.h 7,.h 8]),.o (.g [.h 9,.h 10,.h 11,.h 12,.h 13,.h 14,.h 15,.h 16,.h 17]),yh 18],[],yh 21,[]⟩) 0 (zf ⟨zb,zb,zb,(zt zo),zb,zb,zb,(zt zx),(zt zo),zb,zb,zb,(zt zo),zb,zb,zb,(zt zx),(zt zo),zb,zb,zb,zb,trivial⟩) ⟨e_bin (za rfl) zd (za rfl) (r_ar ((zn2 (by decide)).trans (congrArg some e1))),
  e_bin (za rfl) zd (za rfl) (r_cmp (congrArg some e2)),
  e_fbv h3,
  e_bin (za rfl) (za rfl) (za rfl) (r_cmp (congrArg some e4)),
  trivial⟩ mixed (by kernel_rfl))
theorem zup {w0:World} (v_:Val) (w_:Val) (k:Int) (v1:Int) (v2:Bool) (v4:Bool) (v6:(List UInt8)) (v7:(List UInt8)) (v8:Bool) (e1:((k:Int).tmod (6:Int))=v1) (e2:((v1 == (0:Int)))=v2) (e4:((v1 == (1:Int)))=v4) (e6:(txV v_)=v6) (e7:(txV w_)=v7) (e8:(((v6:List UInt8) == v7))=v8) (h3:v2=false) (h5:v4=true):Fun (KN w0) Tryz.prog 28 [.o (.g [pV (.int .u8 v_.1),pI v_.2.1,pS v_.2.2.1,pLs cI v_.2.2.2.1,pI v_.2.2.2.2.1.1,pI v_.2.2.2.2.1.2.1,pI v_.2.2.2.2.1.2.2,pLs cPl v_.2.2.2.2.2.1,pLs cI v_.2.2.2.2.2.2]),.o (.g [pV (.int .u8 w_.1),pI w_.2.1,pS w_.2.2.1,pLs cI w_.2.2.2.1,pI w_.2.2.2.2.1.1,pI w_.2.2.2.2.1.2.1,pI w_.2.2.2.2.1.2.2,pLs cPl w_.2.2.2.2.2.1,pLs cI w_.2.2.2.2.2.2]),.o (.c (pV (.int .u8 k)))] (.o (.c (pB v8))):=
 zi (zl (F:=FL [pV (.int .u8 v_.1),pI v_.2.1,pS v_.2.2.1,pLs cI v_.2.2.2.1,pI v_.2.2.2.2.1.1,pI v_.2.2.2.2.1.2.1,pI v_.2.2.2.2.1.2.2,pLs cPl v_.2.2.2.2.2.1,pLs cI v_.2.2.2.2.2.2,pV (.int .u8 w_.1),pI w_.2.1,pS w_.2.2.1,pLs cI w_.2.2.2.1,pI w_.2.2.2.2.1.1,pI w_.2.2.2.2.1.2.1,pI w_.2.2.2.2.1.2.2,pLs cPl w_.2.2.2.2.2.1,pLs cI w_.2.2.2.2.2.2,pV (.int .u8 k),pV (.int .u8 v1),pB v2,pB v4,pS v6,pS v7,pB v8] []) (C:=[(1000004,.bin .rem 5 (yh 18) (LF (.k (.int .u8 6))) (yh 19)),
  (1000005,.bin .eql 5 (yh 19) (LF (.k (.int .u8 0))) (yh 20)),
  (10020,.fb 20 false),
  (1000007,.bin .eql 5 (yh 19) (LF (.k (.int .u8 1))) (yh 21)),
  (10021,.fb 21 true),
  (1000010,.call ⟨39,[.o (.g [.h 0,.h 1,.h 2,.h 3,.h 4,.h 5,.h 6,.h 7,.h 8])],[],yh 22,[]⟩),
  (1000012,.call ⟨39,[.o (.g [.h 9,.h 10,.h 11,.h 12,.h 13,.h 14,.h 15,.h 16,.h 17])],[],yh 23,[]⟩),
  (1000013,.bin .eql 9 (yh 22) (yh 23) (yh 24))]) (k:=⟨28,[.o (.g [.h 0,.h 1,.h 2,.h 3,.h 4,.h 5,.h 6,.h 7,.h 8]),.o (.g [.h 9,.h 10,.h 11,.h 12,.h 13,.h 14,.h 15,.h 16,.h 17]),yh 18],[],yh 24,[]⟩) 0 (zf ⟨zb,zb,zb,(zt zo),zb,zb,zb,(zt zx),(zt zo),zb,zb,zb,(zt zo),zb,zb,zb,(zt zx),(zt zo),zb,zb,zb,zb,zb,zb,zb,trivial⟩) ⟨e_bin (za rfl) zd (za rfl) (r_ar ((zn2 (by decide)).trans (congrArg some e1))),
  e_bin (za rfl) zd (za rfl) (r_cmp (congrArg some e2)),
  e_fbv h3,
  e_bin (za rfl) zd (za rfl) (r_cmp (congrArg some e4)),
  e_fbv h5,
  ze (zr4 v_ v6 e6),
  ze (zr4 w_ v7 e7),
  e_bin (za rfl) (za rfl) (za rfl) (fun W X Y=>by rw [← e8];exact r_seq W X Y),
  trivial⟩ mixed (by kernel_rfl))
theorem zuq {w0:World} (v_:Val) (w_:Val) (k:Int) (v1:Int) (v2:Bool) (v4:Bool) (v6:Bool) (v8:(List Int)) (v9:(List Int)) (v10:Bool) (e1:((k:Int).tmod (6:Int))=v1) (e2:((v1 == (0:Int)))=v2) (e4:((v1 == (1:Int)))=v4) (e6:((v1 == (2:Int)))=v6) (e8:(inV v_)=v8) (e9:(inV w_)=v9) (e10:(decide (v8=v9))=v10) (h3:v2=false) (h5:v4=false) (h7:v6=true) (s11:v8.length<9223372036854775808):Fun (KN w0) Tryz.prog 28 [.o (.g [pV (.int .u8 v_.1),pI v_.2.1,pS v_.2.2.1,pLs cI v_.2.2.2.1,pI v_.2.2.2.2.1.1,pI v_.2.2.2.2.1.2.1,pI v_.2.2.2.2.1.2.2,pLs cPl v_.2.2.2.2.2.1,pLs cI v_.2.2.2.2.2.2]),.o (.g [pV (.int .u8 w_.1),pI w_.2.1,pS w_.2.2.1,pLs cI w_.2.2.2.1,pI w_.2.2.2.2.1.1,pI w_.2.2.2.2.1.2.1,pI w_.2.2.2.2.1.2.2,pLs cPl w_.2.2.2.2.2.1,pLs cI w_.2.2.2.2.2.2]),.o (.c (pV (.int .u8 k)))] (.o (.c (pB v10))):=
 zi (zl (F:=FL [pV (.int .u8 v_.1),pI v_.2.1,pS v_.2.2.1,pLs cI v_.2.2.2.1,pI v_.2.2.2.2.1.1,pI v_.2.2.2.2.1.2.1,pI v_.2.2.2.2.1.2.2,pLs cPl v_.2.2.2.2.2.1,pLs cI v_.2.2.2.2.2.2,pV (.int .u8 w_.1),pI w_.2.1,pS w_.2.2.1,pLs cI w_.2.2.2.1,pI w_.2.2.2.2.1.1,pI w_.2.2.2.2.1.2.1,pI w_.2.2.2.2.1.2.2,pLs cPl w_.2.2.2.2.2.1,pLs cI w_.2.2.2.2.2.2,pV (.int .u8 k),pV (.int .u8 v1),pB v2,pB v4,pB v6,pLs cI v8,pLs cI v9,pB v10] []) (C:=[(1000004,.bin .rem 5 (yh 18) (LF (.k (.int .u8 6))) (yh 19)),
  (1000005,.bin .eql 5 (yh 19) (LF (.k (.int .u8 0))) (yh 20)),
  (10020,.fb 20 false),
  (1000007,.bin .eql 5 (yh 19) (LF (.k (.int .u8 1))) (yh 21)),
  (10021,.fb 21 false),
  (1000009,.bin .eql 5 (yh 19) (LF (.k (.int .u8 2))) (yh 22)),
  (10022,.fb 22 true),
  (1000012,.call ⟨11,[.o (.g [.h 0,.h 1,.h 2,.h 3,.h 4,.h 5,.h 6,.h 7,.h 8])],[],yh 23,[]⟩),
  (1000014,.call ⟨11,[.o (.g [.h 9,.h 10,.h 11,.h 12,.h 13,.h 14,.h 15,.h 16,.h 17])],[],yh 24,[]⟩),
  (1000015,.call ⟨37,[yh 23,yh 24],[],yh 25,[]⟩)]) (k:=⟨28,[.o (.g [.h 0,.h 1,.h 2,.h 3,.h 4,.h 5,.h 6,.h 7,.h 8]),.o (.g [.h 9,.h 10,.h 11,.h 12,.h 13,.h 14,.h 15,.h 16,.h 17]),yh 18],[],yh 25,[]⟩) 0 (zf ⟨zb,zb,zb,(zt zo),zb,zb,zb,(zt zx),(zt zo),zb,zb,zb,(zt zo),zb,zb,zb,(zt zx),(zt zo),zb,zb,zb,zb,zb,(zt zo),(zt zo),zb,trivial⟩) ⟨e_bin (za rfl) zd (za rfl) (r_ar ((zn2 (by decide)).trans (congrArg some e1))),
  e_bin (za rfl) zd (za rfl) (r_cmp (congrArg some e2)),
  e_fbv h3,
  e_bin (za rfl) zd (za rfl) (r_cmp (congrArg some e4)),
  e_fbv h5,
  e_bin (za rfl) zd (za rfl) (r_cmp (congrArg some e6)),
  e_fbv h7,
  ze (zq0 v_ v8 e8),
  ze (zq0 w_ v9 e9),
  ze (ziQ v8 v9 v10 e10 s11),
  trivial⟩ mixed (by kernel_rfl))
theorem zur {w0:World} (v_:Val) (w_:Val) (k:Int) (v1:Int) (v2:Bool) (v4:Bool) (v6:Bool) (v8:Bool) (v10:Bool) (e1:((k:Int).tmod (6:Int))=v1) (e2:((v1 == (0:Int)))=v2) (e4:((v1 == (1:Int)))=v4) (e6:((v1 == (2:Int)))=v6) (e8:((v1 == (3:Int)))=v8) (e10:(decide (v_.2.2.2.2.1=w_.2.2.2.2.1))=v10) (h3:v2=false) (h5:v4=false) (h7:v6=false) (h9:v8=true):Fun (KN w0) Tryz.prog 28 [.o (.g [pV (.int .u8 v_.1),pI v_.2.1,pS v_.2.2.1,pLs cI v_.2.2.2.1,pI v_.2.2.2.2.1.1,pI v_.2.2.2.2.1.2.1,pI v_.2.2.2.2.1.2.2,pLs cPl v_.2.2.2.2.2.1,pLs cI v_.2.2.2.2.2.2]),.o (.g [pV (.int .u8 w_.1),pI w_.2.1,pS w_.2.2.1,pLs cI w_.2.2.2.1,pI w_.2.2.2.2.1.1,pI w_.2.2.2.2.1.2.1,pI w_.2.2.2.2.1.2.2,pLs cPl w_.2.2.2.2.2.1,pLs cI w_.2.2.2.2.2.2]),.o (.c (pV (.int .u8 k)))] (.o (.c (pB v10))):=
 zi (zl (F:=FL [pV (.int .u8 v_.1),pI v_.2.1,pS v_.2.2.1,pLs cI v_.2.2.2.1,pI v_.2.2.2.2.1.1,pI v_.2.2.2.2.1.2.1,pI v_.2.2.2.2.1.2.2,pLs cPl v_.2.2.2.2.2.1,pLs cI v_.2.2.2.2.2.2,pV (.int .u8 w_.1),pI w_.2.1,pS w_.2.2.1,pLs cI w_.2.2.2.1,pI w_.2.2.2.2.1.1,pI w_.2.2.2.2.1.2.1,pI w_.2.2.2.2.1.2.2,pLs cPl w_.2.2.2.2.2.1,pLs cI w_.2.2.2.2.2.2,pV (.int .u8 k),pV (.int .u8 v1),pB v2,pB v4,pB v6,pB v8,pB v10] []) (C:=[(1000004,.bin .rem 5 (yh 18) (LF (.k (.int .u8 6))) (yh 19)),
  (1000005,.bin .eql 5 (yh 19) (LF (.k (.int .u8 0))) (yh 20)),
  (10020,.fb 20 false),
  (1000007,.bin .eql 5 (yh 19) (LF (.k (.int .u8 1))) (yh 21)),
  (10021,.fb 21 false),
  (1000009,.bin .eql 5 (yh 19) (LF (.k (.int .u8 2))) (yh 22)),
  (10022,.fb 22 false),
  (1000011,.bin .eql 5 (yh 19) (LF (.k (.int .u8 3))) (yh 23)),
  (10023,.fb 23 true),
  (1000017,.bin .eql 24 (.o (.g [.h 4,.h 5,.h 6])) (.o (.g [.h 13,.h 14,.h 15])) (yh 24))]) (k:=⟨28,[.o (.g [.h 0,.h 1,.h 2,.h 3,.h 4,.h 5,.h 6,.h 7,.h 8]),.o (.g [.h 9,.h 10,.h 11,.h 12,.h 13,.h 14,.h 15,.h 16,.h 17]),yh 18],[],yh 24,[]⟩) 0 (zf ⟨zb,zb,zb,(zt zo),zb,zb,zb,(zt zx),(zt zo),zb,zb,zb,(zt zo),zb,zb,zb,(zt zx),(zt zo),zb,zb,zb,zb,zb,zb,zb,trivial⟩) ⟨e_bin (za rfl) zd (za rfl) (r_ar ((zn2 (by decide)).trans (congrArg some e1))),
  e_bin (za rfl) zd (za rfl) (r_cmp (congrArg some e2)),
  e_fbv h3,
  e_bin (za rfl) zd (za rfl) (r_cmp (congrArg some e4)),
  e_fbv h5,
  e_bin (za rfl) zd (za rfl) (r_cmp (congrArg some e6)),
  e_fbv h7,
  e_bin (za rfl) zd (za rfl) (r_cmp (congrArg some e8)),
  e_fbv h9,
  e_eqV (x:=v_.2.2.2.2.1) (y:=w_.2.2.2.2.1) (neg:=false) ⟨(za rfl),(za rfl),(za rfl),trivial⟩ ⟨(za rfl),(za rfl),(za rfl),trivial⟩ (za (by rw [← e10];rfl)),
  trivial⟩ mixed (by kernel_rfl))
theorem zus {w0:World} (v_:Val) (w_:Val) (k:Int) (v1:Int) (v2:Bool) (v4:Bool) (v6:Bool) (v8:Bool) (v10:Bool) (v12:(List Pl)) (v13:(List Pl)) (v14:Bool) (e1:((k:Int).tmod (6:Int))=v1) (e2:((v1 == (0:Int)))=v2) (e4:((v1 == (1:Int)))=v4) (e6:((v1 == (2:Int)))=v6) (e8:((v1 == (3:Int)))=v8) (e10:((v1 == (4:Int)))=v10) (e12:(clV v_)=v12) (e13:(clV w_)=v13) (e14:(decide (v12=v13))=v14) (h3:v2=false) (h5:v4=false) (h7:v6=false) (h9:v8=false) (h11:v10=true) (s15:v12.length<9223372036854775808):Fun (KN w0) Tryz.prog 28 [.o (.g [pV (.int .u8 v_.1),pI v_.2.1,pS v_.2.2.1,pLs cI v_.2.2.2.1,pI v_.2.2.2.2.1.1,pI v_.2.2.2.2.1.2.1,pI v_.2.2.2.2.1.2.2,pLs cPl v_.2.2.2.2.2.1,pLs cI v_.2.2.2.2.2.2]),.o (.g [pV (.int .u8 w_.1),pI w_.2.1,pS w_.2.2.1,pLs cI w_.2.2.2.1,pI w_.2.2.2.2.1.1,pI w_.2.2.2.2.1.2.1,pI w_.2.2.2.2.1.2.2,pLs cPl w_.2.2.2.2.2.1,pLs cI w_.2.2.2.2.2.2]),.o (.c (pV (.int .u8 k)))] (.o (.c (pB v14))):=
 zi (zl (F:=FL [pV (.int .u8 v_.1),pI v_.2.1,pS v_.2.2.1,pLs cI v_.2.2.2.1,pI v_.2.2.2.2.1.1,pI v_.2.2.2.2.1.2.1,pI v_.2.2.2.2.1.2.2,pLs cPl v_.2.2.2.2.2.1,pLs cI v_.2.2.2.2.2.2,pV (.int .u8 w_.1),pI w_.2.1,pS w_.2.2.1,pLs cI w_.2.2.2.1,pI w_.2.2.2.2.1.1,pI w_.2.2.2.2.1.2.1,pI w_.2.2.2.2.1.2.2,pLs cPl w_.2.2.2.2.2.1,pLs cI w_.2.2.2.2.2.2,pV (.int .u8 k),pV (.int .u8 v1),pB v2,pB v4,pB v6,pB v8,pB v10,pLs cPl v12,pLs cPl v13,pB v14] []) (C:=[(1000004,.bin .rem 5 (yh 18) (LF (.k (.int .u8 6))) (yh 19)),
  (1000005,.bin .eql 5 (yh 19) (LF (.k (.int .u8 0))) (yh 20)),
  (10020,.fb 20 false),
  (1000007,.bin .eql 5 (yh 19) (LF (.k (.int .u8 1))) (yh 21)),
  (10021,.fb 21 false),
  (1000009,.bin .eql 5 (yh 19) (LF (.k (.int .u8 2))) (yh 22)),
  (10022,.fb 22 false),
  (1000011,.bin .eql 5 (yh 19) (LF (.k (.int .u8 3))) (yh 23)),
  (10023,.fb 23 false),
  (1000013,.bin .eql 5 (yh 19) (LF (.k (.int .u8 4))) (yh 24)),
  (10024,.fb 24 true),
  (1000016,.call ⟨40,[.o (.g [.h 0,.h 1,.h 2,.h 3,.h 4,.h 5,.h 6,.h 7,.h 8])],[],yh 25,[]⟩),
  (1000018,.call ⟨40,[.o (.g [.h 9,.h 10,.h 11,.h 12,.h 13,.h 14,.h 15,.h 16,.h 17])],[],yh 26,[]⟩),
  (1000019,.call ⟨56,[yh 25,yh 26],[],yh 27,[]⟩)]) (k:=⟨28,[.o (.g [.h 0,.h 1,.h 2,.h 3,.h 4,.h 5,.h 6,.h 7,.h 8]),.o (.g [.h 9,.h 10,.h 11,.h 12,.h 13,.h 14,.h 15,.h 16,.h 17]),yh 18],[],yh 27,[]⟩) 0 (zf ⟨zb,zb,zb,(zt zo),zb,zb,zb,(zt zx),(zt zo),zb,zb,zb,(zt zo),zb,zb,zb,(zt zx),(zt zo),zb,zb,zb,zb,zb,zb,zb,(zt zx),(zt zx),zb,trivial⟩) ⟨e_bin (za rfl) zd (za rfl) (r_ar ((zn2 (by decide)).trans (congrArg some e1))),
  e_bin (za rfl) zd (za rfl) (r_cmp (congrArg some e2)),
  e_fbv h3,
  e_bin (za rfl) zd (za rfl) (r_cmp (congrArg some e4)),
  e_fbv h5,
  e_bin (za rfl) zd (za rfl) (r_cmp (congrArg some e6)),
  e_fbv h7,
  e_bin (za rfl) zd (za rfl) (r_cmp (congrArg some e8)),
  e_fbv h9,
  e_bin (za rfl) zd (za rfl) (r_cmp (congrArg some e10)),
  e_fbv h11,
  ze (zr3 v_ v12 e12),
  ze (zr3 w_ v13 e13),
  ze (zq1 v12 v13 v14 e14 s15),
  trivial⟩ mixed (by kernel_rfl))
theorem zut {w0:World} (v_:Val) (w_:Val) (k:Int) (v1:Int) (v2:Bool) (v4:Bool) (v6:Bool) (v8:Bool) (v10:Bool) (v12:RR) (v13:RR) (v14:Bool) (e1:((k:Int).tmod (6:Int))=v1) (e2:((v1 == (0:Int)))=v2) (e4:((v1 == (1:Int)))=v4) (e6:((v1 == (2:Int)))=v6) (e8:((v1 == (3:Int)))=v8) (e10:((v1 == (4:Int)))=v10) (e12:(raV v_)=v12) (e13:(raV w_)=v13) (e14:(decide (v12=v13))=v14) (h3:v2=false) (h5:v4=false) (h7:v6=false) (h9:v8=false) (h11:v10=false):Fun (KN w0) Tryz.prog 28 [.o (.g [pV (.int .u8 v_.1),pI v_.2.1,pS v_.2.2.1,pLs cI v_.2.2.2.1,pI v_.2.2.2.2.1.1,pI v_.2.2.2.2.1.2.1,pI v_.2.2.2.2.1.2.2,pLs cPl v_.2.2.2.2.2.1,pLs cI v_.2.2.2.2.2.2]),.o (.g [pV (.int .u8 w_.1),pI w_.2.1,pS w_.2.2.1,pLs cI w_.2.2.2.1,pI w_.2.2.2.2.1.1,pI w_.2.2.2.2.1.2.1,pI w_.2.2.2.2.1.2.2,pLs cPl w_.2.2.2.2.2.1,pLs cI w_.2.2.2.2.2.2]),.o (.c (pV (.int .u8 k)))] (.o (.c (pB v14))):=
 zi (zl (F:=FL [pV (.int .u8 v_.1),pI v_.2.1,pS v_.2.2.1,pLs cI v_.2.2.2.1,pI v_.2.2.2.2.1.1,pI v_.2.2.2.2.1.2.1,pI v_.2.2.2.2.1.2.2,pLs cPl v_.2.2.2.2.2.1,pLs cI v_.2.2.2.2.2.2,pV (.int .u8 w_.1),pI w_.2.1,pS w_.2.2.1,pLs cI w_.2.2.2.1,pI w_.2.2.2.2.1.1,pI w_.2.2.2.2.1.2.1,pI w_.2.2.2.2.1.2.2,pLs cPl w_.2.2.2.2.2.1,pLs cI w_.2.2.2.2.2.2,pV (.int .u8 k),pV (.int .u8 v1),pB v2,pB v4,pB v6,pB v8,pB v10,pB v12.1.1,pD v12.1.2,pB v12.2.1,pD v12.2.2,pB v13.1.1,pD v13.1.2,pB v13.2.1,pD v13.2.2,pB v14] []) (C:=[(1000004,.bin .rem 5 (yh 18) (LF (.k (.int .u8 6))) (yh 19)),
  (1000005,.bin .eql 5 (yh 19) (LF (.k (.int .u8 0))) (yh 20)),
  (10020,.fb 20 false),
  (1000007,.bin .eql 5 (yh 19) (LF (.k (.int .u8 1))) (yh 21)),
  (10021,.fb 21 false),
  (1000009,.bin .eql 5 (yh 19) (LF (.k (.int .u8 2))) (yh 22)),
  (10022,.fb 22 false),
  (1000011,.bin .eql 5 (yh 19) (LF (.k (.int .u8 3))) (yh 23)),
  (10023,.fb 23 false),
  (1000013,.bin .eql 5 (yh 19) (LF (.k (.int .u8 4))) (yh 24)),
  (10024,.fb 24 false),
  (1000016,.call ⟨41,[.o (.g [.h 0,.h 1,.h 2,.h 3,.h 4,.h 5,.h 6,.h 7,.h 8])],[],.o (.g [.h 25,.h 26,.h 27,.h 28]),[]⟩),
  (1000018,.call ⟨41,[.o (.g [.h 9,.h 10,.h 11,.h 12,.h 13,.h 14,.h 15,.h 16,.h 17])],[],.o (.g [.h 29,.h 30,.h 31,.h 32]),[]⟩),
  (1000019,.call ⟨59,[.o (.g [.h 25,.h 26,.h 27,.h 28]),.o (.g [.h 29,.h 30,.h 31,.h 32])],[],yh 33,[]⟩)]) (k:=⟨28,[.o (.g [.h 0,.h 1,.h 2,.h 3,.h 4,.h 5,.h 6,.h 7,.h 8]),.o (.g [.h 9,.h 10,.h 11,.h 12,.h 13,.h 14,.h 15,.h 16,.h 17]),yh 18],[],yh 33,[]⟩) 0 (zf ⟨zb,zb,zb,(zt zo),zb,zb,zb,(zt zx),(zt zo),zb,zb,zb,(zt zo),zb,zb,zb,(zt zx),(zt zo),zb,zb,zb,zb,zb,zb,zb,zb,zj,zb,zj,zb,zj,zb,zj,zb,trivial⟩) ⟨e_bin (za rfl) zd (za rfl) (r_ar ((zn2 (by decide)).trans (congrArg some e1))),
  e_bin (za rfl) zd (za rfl) (r_cmp (congrArg some e2)),
  e_fbv h3,
  e_bin (za rfl) zd (za rfl) (r_cmp (congrArg some e4)),
  e_fbv h5,
  e_bin (za rfl) zd (za rfl) (r_cmp (congrArg some e6)),
  e_fbv h7,
  e_bin (za rfl) zd (za rfl) (r_cmp (congrArg some e8)),
  e_fbv h9,
  e_bin (za rfl) zd (za rfl) (r_cmp (congrArg some e10)),
  e_fbv h11,
  ze (zqz v_ v12 e12),
  ze (zqz w_ v13 e13),
  ze (zmq v12 v13 v14 e14),
  trivial⟩ mixed (by kernel_rfl))
theorem zsR {w0:World} (v_ w_:Val) (k:Int) (r:Bool) (hr:samV (k.tmod 6) v_ w_=r):Fun (KN w0) Tryz.prog 28 [.o (.g [pV (.int .u8 v_.1),pI v_.2.1,pS v_.2.2.1,pLs cI v_.2.2.2.1,pI v_.2.2.2.2.1.1,pI v_.2.2.2.2.1.2.1,pI v_.2.2.2.2.1.2.2,pLs cPl v_.2.2.2.2.2.1,pLs cI v_.2.2.2.2.2.2]),.o (.g [pV (.int .u8 w_.1),pI w_.2.1,pS w_.2.2.1,pLs cI w_.2.2.2.1,pI w_.2.2.2.2.1.1,pI w_.2.2.2.2.1.2.1,pI w_.2.2.2.2.1.2.2,pLs cPl w_.2.2.2.2.2.1,pLs cI w_.2.2.2.2.2.2]),.o (.c (pV (.int .u8 k)))] (.o (.c (pB r))):=by
 obtain ⟨v1,e1⟩:∃v,((k:Int).tmod (6:Int))=v:=⟨_,rfl⟩
 obtain ⟨v2,e2⟩:∃v,((v1 == (0:Int)))=v:=⟨_,rfl⟩
 cases h3:v2 with
 | true =>
  obtain ⟨v4,e4⟩:∃v,((v_.2.1 == w_.2.1))=v:=⟨_,rfl⟩
  refine Fun.imp (zuo v_ w_ k v1 v2 v4 e1 e2 e4 h3) (fun _ _ _ h=>h) (fun v W D h=>?_)
  have r0:r=v4:=by
   have q0:=eq_of_beq (e2.trans h3)
   (rw [← hr];unfold samV;rw [e1];rw [if_pos q0];rw [← e4];first | done | rfl | (rw [Bool.eq_iff_iff];simp))
  rw [r0];exact h
 | false =>
  obtain ⟨v4,e4⟩:∃v,((v1 == (1:Int)))=v:=⟨_,rfl⟩
  cases h5:v4 with
  | true =>
   obtain ⟨v6,e6⟩:∃v,(txV v_)=v:=⟨_,rfl⟩
   obtain ⟨v7,e7⟩:∃v,(txV w_)=v:=⟨_,rfl⟩
   obtain ⟨v8,e8⟩:∃v,(((v6:List UInt8) == v7))=v:=⟨_,rfl⟩
   refine Fun.imp (zup v_ w_ k v1 v2 v4 v6 v7 v8 e1 e2 e4 e6 e7 e8 h3 h5) (fun _ _ _ h=>h) (fun v W D h=>?_)
   have r0:r=v8:=by
    have q0:=ne_of_beq_false (e2.trans h3)
    have q1:=eq_of_beq (e4.trans h5)
    (rw [← hr];unfold samV;rw [e1];rw [if_neg q0,if_pos q1];rw [e6,e7];rw [← e8];first | done | rfl | (rw [Bool.eq_iff_iff];simp))
   rw [r0];exact h
  | false =>
   obtain ⟨v6,e6⟩:∃v,((v1 == (2:Int)))=v:=⟨_,rfl⟩
   cases h7:v6 with
   | true =>
    obtain ⟨v8,e8⟩:∃v,(inV v_)=v:=⟨_,rfl⟩
    obtain ⟨v9,e9⟩:∃v,(inV w_)=v:=⟨_,rfl⟩
    obtain ⟨v10,e10⟩:∃v,(decide (v8=v9))=v:=⟨_,rfl⟩
    have s11:v8.length<9223372036854775808:=by (subst_vars;first | exact zqp _ | exact zqm _ | exact Nat.lt_of_le_of_lt (Nat.le_trans (zo8 zpF st).2 hle) (by decide) | exact Nat.lt_of_le_of_lt (Nat.le_trans (zo8 zqv st).2 hle) (by decide))
    refine Fun.imp (zuq v_ w_ k v1 v2 v4 v6 v8 v9 v10 e1 e2 e4 e6 e8 e9 e10 h3 h5 h7 s11) (fun _ _ _ h=>h) (fun v W D h=>?_)
    have r0:r=v10:=by
     have q0:=ne_of_beq_false (e2.trans h3)
     have q1:=ne_of_beq_false (e4.trans h5)
     have q2:=eq_of_beq (e6.trans h7)
     (rw [← hr];unfold samV;rw [e1];rw [if_neg q0,if_neg q1,if_pos q2];rw [e8,e9];rw [← e10];first | done | rfl | (rw [Bool.eq_iff_iff];simp))
    rw [r0];exact h
   | false =>
    obtain ⟨v8,e8⟩:∃v,((v1 == (3:Int)))=v:=⟨_,rfl⟩
    cases h9:v8 with
    | true =>
     obtain ⟨v10,e10⟩:∃v,(decide (v_.2.2.2.2.1=w_.2.2.2.2.1))=v:=⟨_,rfl⟩
     refine Fun.imp (zur v_ w_ k v1 v2 v4 v6 v8 v10 e1 e2 e4 e6 e8 e10 h3 h5 h7 h9) (fun _ _ _ h=>h) (fun v W D h=>?_)
     have r0:r=v10:=by
      have q0:=ne_of_beq_false (e2.trans h3)
      have q1:=ne_of_beq_false (e4.trans h5)
      have q2:=ne_of_beq_false (e6.trans h7)
      have q3:=eq_of_beq (e8.trans h9)
      (rw [← hr];unfold samV;rw [e1];rw [if_neg q0,if_neg q1,if_neg q2,if_pos q3];rw [← e10];first | done | rfl | (rw [Bool.eq_iff_iff];simp))
     rw [r0];exact h
    | false =>
     obtain ⟨v10,e10⟩:∃v,((v1 == (4:Int)))=v:=⟨_,rfl⟩
     cases h11:v10 with
     | true =>
      obtain ⟨v12,e12⟩:∃v,(clV v_)=v:=⟨_,rfl⟩
      obtain ⟨v13,e13⟩:∃v,(clV w_)=v:=⟨_,rfl⟩
      obtain ⟨v14,e14⟩:∃v,(decide (v12=v13))=v:=⟨_,rfl⟩
      have s15:v12.length<9223372036854775808:=by (subst_vars;first | exact zqp _ | exact zqm _ | exact Nat.lt_of_le_of_lt (Nat.le_trans (zo8 zpF st).2 hle) (by decide) | exact Nat.lt_of_le_of_lt (Nat.le_trans (zo8 zqv st).2 hle) (by decide))
      refine Fun.imp (zus v_ w_ k v1 v2 v4 v6 v8 v10 v12 v13 v14 e1 e2 e4 e6 e8 e10 e12 e13 e14 h3 h5 h7 h9 h11 s15) (fun _ _ _ h=>h) (fun v W D h=>?_)
      have r0:r=v14:=by
       have q0:=ne_of_beq_false (e2.trans h3)
       have q1:=ne_of_beq_false (e4.trans h5)
       have q2:=ne_of_beq_false (e6.trans h7)
       have q3:=ne_of_beq_false (e8.trans h9)
       have q4:=eq_of_beq (e10.trans h11)
       (rw [← hr];unfold samV;rw [e1];rw [if_neg q0,if_neg q1,if_neg q2,if_neg q3,if_pos q4];rw [e12,e13];rw [← e14];first | done | rfl | (rw [Bool.eq_iff_iff];simp))
      rw [r0];exact h
     | false =>
      obtain ⟨v12,e12⟩:∃v,(raV v_)=v:=⟨_,rfl⟩
      obtain ⟨v13,e13⟩:∃v,(raV w_)=v:=⟨_,rfl⟩
      obtain ⟨v14,e14⟩:∃v,(decide (v12=v13))=v:=⟨_,rfl⟩
      refine Fun.imp (zut v_ w_ k v1 v2 v4 v6 v8 v10 v12 v13 v14 e1 e2 e4 e6 e8 e10 e12 e13 e14 h3 h5 h7 h9 h11) (fun _ _ _ h=>h) (fun v W D h=>?_)
      have r0:r=v14:=by
       have q0:=ne_of_beq_false (e2.trans h3)
       have q1:=ne_of_beq_false (e4.trans h5)
       have q2:=ne_of_beq_false (e6.trans h7)
       have q3:=ne_of_beq_false (e8.trans h9)
       have q4:=ne_of_beq_false (e10.trans h11)
       (rw [← hr];unfold samV;rw [e1];rw [if_neg q0,if_neg q1,if_neg q2,if_neg q3,if_neg q4];rw [e12,e13];rw [← e14];first | done | rfl | (rw [Bool.eq_iff_iff];simp))
      rw [r0];exact h
end Go.Proofs.YtjcegdldgjphiaaGreatDoor
namespace Go.Proofs.YtjcegdldgjphiaaGreatDoor
theorem zqu (v:Val):OkF (raV v):=zu0 _
theorem zpx (v:Val):encRS (raV v)=encR (raV v):=zsG (zqu v)
theorem OkV.lL {v:Val} (h:OkV v):(inV v).length<9223372036854775808∧∀x∈inV v,InI x:=⟨zqp v,(zpu h).1⟩
theorem OkV.cL {v:Val} (h:OkV v):(clV v).length<9223372036854775808∧∀x∈clV v,InV x.1∧InI x.2:=⟨zqm v,(zpE h).1⟩
theorem zrm (v:Val):LenI (txV v):=by
 have:=zuf v
 unfold TxW at this
 unfold LenI;omega
theorem ztN {c:Int} {v w:Val} (hv:OkV v) (hw:OkV w) {r r':List UInt8} (e:byV c v++r=byV c w++r'):samV c v w=true∧r=r':=by
 unfold byV at e
 unfold samV
 split at e
 ·rename_i h;rw [if_pos h];exact (codI.toCodE.inj hv.n hw.n e).imp_left decide_eq_true
 rename_i h0;rw [if_neg h0]
 split at e
 ·rename_i h;rw [if_pos h];exact (codT.toCodE.inj (zrm v) (zrm w) (by simpa [h0,h] using e)).imp_left decide_eq_true
 rename_i h1;rw [if_neg h1]
 split at e
 ·rename_i h;rw [if_pos h];exact (codIs.toCodE.inj hv.lL hw.lL (by simpa [h0,h1,h] using e)).imp_left decide_eq_true
 rename_i h2;rw [if_neg h2]
 split at e
 ·rename_i h;rw [if_pos h];exact (codV.toCodE.inj hv.v hw.v (by simpa [h0,h1,h2,h] using e)).imp_left decide_eq_true
 rename_i h3;rw [if_neg h3]
 split at e
 ·rename_i h;rw [if_pos h];exact (codC.toCodE.inj hv.cL hw.cL (by simpa [h0,h1,h2,h3,h] using e)).imp_left decide_eq_true
 ·rename_i h4
  rw [if_neg h4]
  refine (codR.toCodE.inj (zqu v) (zqu w) (r:=r) (r':=r') ?_).imp_left decide_eq_true
  rw [← zpx,← zpx]
  simpa [h0,h1,h2,h3,h4] using e
theorem ztO {c:Int} {v w:Val} (h:samV c v w=true):byV c v=byV c w:=by
 unfold samV at h
 unfold byV
 split at h
 ·rename_i hc;rw [if_pos hc,if_pos hc,of_decide_eq_true h]
 rename_i h0;rw [if_neg h0,if_neg h0]
 split at h
 ·rename_i hc;rw [if_pos hc,if_pos hc,of_decide_eq_true h]
 rename_i h1;rw [if_neg h1,if_neg h1]
 split at h
 ·rename_i hc;rw [if_pos hc,if_pos hc,of_decide_eq_true h]
 rename_i h2;rw [if_neg h2,if_neg h2]
 split at h
 ·rename_i hc;rw [if_pos hc,if_pos hc,of_decide_eq_true h]
 rename_i h3;rw [if_neg h3,if_neg h3]
 split at h
 ·rename_i hc;rw [if_pos hc,if_pos hc,of_decide_eq_true h]
 ·rename_i h4;rw [if_neg h4,if_neg h4,of_decide_eq_true h]
theorem zwk {c:Int} {v:Val} (hv:OkV v) {s t:List UInt8} (e:byV c v=s++t) (ht:t≠[]):callS c (some s)=none:=by
 unfold byV at e
 unfold callS
 split at e
 ·rename_i h;rw [if_pos h];exact codI.toCodE.cut hv.n e ht
 rename_i h0;rw [if_neg h0]
 split at e
 ·rename_i h;rw [if_pos h];exact codT.toCodE.cut (zrm v) e ht
 rename_i h1;rw [if_neg h1]
 split at e
 ·rename_i h;rw [if_pos h];exact codIs.toCodE.cut hv.lL e ht
 rename_i h2;rw [if_neg h2]
 split at e
 ·rename_i h;rw [if_pos h];exact codV.toCodE.cut hv.v e ht
 rename_i h3;rw [if_neg h3]
 split at e
 ·rename_i h;rw [if_pos h];exact codC.toCodE.cut hv.cL e ht
 ·rename_i h4
  rw [if_neg h4]
  rw [zpx] at e
  exact codR.toCodE.cut (zqu v) e ht
theorem ztV (s:List UInt8):encT s≠[]:=by
 unfold encT
 intro h
 exact zgr _ (List.append_eq_nil_iff.1 h).1
theorem by_ne (c:Int) (v:Val):byV c v≠[]:=by
 unfold byV
 split
 ·exact zgr _
 split
 ·exact ztV _
 split
 ·exact zjn _ _
 split
 ·unfold encV
  intro h
  exact zgr _ (List.append_eq_nil_iff.1 h).2
 split
 ·exact zjn _ _
 ·rw [zpx];exact ztV _
theorem zsy (c:Int) {v:Val} (hv:OkV v):(byV c v).length≤500:=by
 unfold byV
 split
 ·exact Nat.le_trans (zr hv.n) (by decide)
 split
 ·unfold encT
  have h1:(txV v).length≤100:=by unfold txV;rw [List.length_take];omega
  have h2:=zr (n:=((txV v).length:Int)) (by unfold InI;omega)
  rw [List.length_append];omega
 split
 ·unfold encL
  have h1:=(zpu hv).2
  have h2:=zr (n:=((inV v).length:Int)) (by unfold InI;omega)
  have h3:=zjx (f:=encI) (k:=10) (l:=inV v) fun x hx=>zr ((zpu hv).1 x hx)
  rw [List.length_append];omega
 split
 ·exact Nat.le_trans (zcg hv.v) (by decide)
 split
 ·unfold encL
  have h1:=(zpE hv).2
  have h2:=zr (n:=((clV v).length:Int)) (by unfold InI;omega)
  have h3:=zjx (f:=encP) (k:=40) (l:=clV v) fun x hx=>zhv ((zpE hv).1 x hx)
  rw [List.length_append];omega
 ·rw [zpx]
  unfold encR encT
  obtain ⟨t,ht,hl,_⟩:=zqq (v.2.2.2.2.2.2.take 12)
  have h1:(textR (raV v)).length≤63:=by unfold raV;rw [ht];exact hl
  have h2:=zr (n:=((textR (raV v)).length:Int)) (by unfold InI;omega)
  rw [List.length_append];omega
theorem zt0 {c:Int} {s:List UInt8} (h:callS c (some s)=none):malB s c=true:=by
 unfold malB
 rw [h,zlh h];rfl
theorem zwl {c:Int} {v w:Val} (hv:OkV v) (hw:OkV w):((byV c v).take (min (byV c w).length (byV c v).length) == (byV c w).take (min (byV c w).length (byV c v).length))=samV c v w:=by
 rw [Bool.eq_iff_iff,beq_iff_eq]
 constructor
 ·intro h
  rcases Nat.le_total (byV c v).length (byV c w).length with hl | hl
  ·rw [Nat.min_eq_right hl,List.take_length] at h
   refine (ztN (r:=(byV c w).drop (byV c v).length) (r':=[]) hv hw ?_).1
   rw [List.append_nil]
   conv=>lhs;lhs;rw [h]
   exact List.take_append_drop ..
  ·rw [Nat.min_eq_left hl,List.take_length] at h
   refine (ztN (r:=[]) (r':=(byV c v).drop (byV c w).length) hv hw ?_).1
   rw [List.append_nil]
   conv=>rhs;lhs;rw [← h]
   exact (List.take_append_drop ..).symm
 ·intro h
  rw [ztO h]
theorem by_eq {c:Int} {v w:Val} (hv:OkV v) (hw:OkV w):(byV c v == byV c w)=samV c v w:=by
 rw [Bool.eq_iff_iff,beq_iff_eq]
 constructor
 ·intro h
  exact (ztN (r:=[]) (r':=[]) hv hw (by rw [h])).1
 ·exact ztO
theorem zsC:∀(l:List UInt8) (k:Nat),(∀b∈l,128≤b.toNat)→decGo k l=none
 | [],k,_=>by rw [decGo]
 | b::l,k,h=>by
  have hb:=h b (List.mem_cons_self ..)
  rw [decGo]
  split
  ·rfl
  ·rw [if_neg (by omega),zsC l (k+1) fun x hx=>h x (List.mem_cons_of_mem _ hx)]
theorem zrS:∀(l:List UInt8) (k:Nat) (z:UInt8),z.toNat=0→(∀b∈l,128≤b.toNat)→0<k+l.length→decGo k (l++[z])=none
 | [],k,z,hz,_,hk=>by
  rw [List.nil_append,decGo,if_pos (.inr ⟨by simpa using hk,hz⟩)]
 | b::l,k,z,hz,h,_=>by
  have hb:=h b (List.mem_cons_self ..)
  rw [List.cons_append,decGo]
  split
  ·rfl
  ·rw [if_neg (by omega),zrS l (k+1) z hz (fun x hx=>h x (List.mem_cons_of_mem _ hx)) (by omega)]
theorem zsH:∀c:Nat,∀b∈(encN c).take ((encN c).length - 1),128≤b.toNat:=by
 intro c
 induction c using Nat.strongRecOn with
 | _ c ih =>
  by_cases h:c<128
  ·rw [qx h];intro b hb;simp at hb
  ·rw [zbd h]
   have hp:=zwP (c / 128)
   rw [List.length_cons,show (encN (c / 128)).length+1 - 1=((encN (c / 128)).length - 1)+1 by omega,List.take_succ_cons]
   intro b hb
   rcases List.mem_cons.1 hb with rfl | hb
   ·rw [zdQ (by omega)];omega
   ·exact ih _ (by omega) b hb
theorem zvB (c:Nat):(encN c).length=1↔c<128:=by
 by_cases h:c<128
 ·rw [qx h];simp [h]
 ·rw [zbd h,List.length_cons]
  have:=zwP (c / 128)
  constructor
  ·intro h2;omega
  ·intro h2;exact absurd h2 h
theorem zsF (n:Int):(encI n).length=1↔-64≤n∧n≤63:=by
 unfold encI
 rw [zvB]
 unfold zig
 split<;>omega
theorem zrk (b:UInt8):IntKind.u8.wrap (BitVec.ofInt IntKind.u8.bits (b.toNat:Int) ||| BitVec.ofInt IntKind.u8.bits (128:Int)).toNat=((b.toNat%128+128:Nat):Int):=by
 have h:=or8 b.toNat
 rw [show IntKind.u8.wrap ((b.toNat:Nat):Int)=(b.toNat:Int) by rw [wu8];have:=b.toNat_lt;omega] at h
 exact h
theorem bI_of {n:Nat} (h:n<256):(bI (n:Int)).toNat=n:=by
 unfold bI
 rw [Int.toNat_natCast,zdQ h]
theorem zsK (n:Int) (b:UInt8):malB ((encI n).take ((encI n).length - 1)++[bI (IntKind.u8.wrap (BitVec.ofInt IntKind.u8.bits (b.toNat:Int) ||| BitVec.ofInt IntKind.u8.bits (128:Int)).toNat)]) 0=true:=by
 refine zt0 ?_
 unfold callS
 rw [if_pos rfl,zrk]
 have hb:128≤(bI ((b.toNat%128+128:Nat):Int)).toNat:=by rw [bI_of (by omega)];omega
 simp only [rdI,decI]
 rw [zsC]
 ·rfl
 ·intro x hx
  rcases List.mem_append.1 hx with hx | hx
  ·exact zsH _ x hx
  ·rw [List.mem_singleton.1 hx];exact hb
theorem zsL (n:Int) (b:UInt8):malB ((encI n).take ((encI n).length - 1)++[bI (IntKind.u8.wrap (BitVec.ofInt IntKind.u8.bits (b.toNat:Int) ||| BitVec.ofInt IntKind.u8.bits (128:Int)).toNat),bI (0:Int)]) 0=true:=by
 refine zt0 ?_
 unfold callS
 rw [if_pos rfl,zrk]
 have hb:128≤(bI ((b.toNat%128+128:Nat):Int)).toNat:=by rw [bI_of (by omega)];omega
 rw [show (encI n).take ((encI n).length - 1)++[bI ((b.toNat%128+128:Nat):Int),bI (0:Int)]=((encI n).take ((encI n).length - 1)++[bI ((b.toNat%128+128:Nat):Int)])++[bI (0:Int)] by rw [List.append_assoc];rfl]
 simp only [rdI,decI]
 rw [zrS _ 0 (bI (0:Int)) (show (bI (0:Int)).toNat=0 from bI_of (n:=0) (by decide))]
 ·rfl
 ·intro x hx
  rcases List.mem_append.1 hx with hx | hx
  ·exact zsH _ x hx
  ·rw [List.mem_singleton.1 hx];exact hb
 ·rw [List.length_append,List.length_singleton];omega
end Go.Proofs.YtjcegdldgjphiaaGreatDoor
