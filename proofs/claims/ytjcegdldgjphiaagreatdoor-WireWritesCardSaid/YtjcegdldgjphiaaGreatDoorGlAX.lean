/-
  Merged: WrE, WrF, RtV, RtW, WrA, WrG, WrH, RtDat, WrI, WrJ, WrK, WrRr, WrL, WrM, WrP.
-/
import Derived.Test.YtjcegdldgjphiaaGreatDoorGlAW
import Derived.Test.YtjcegdldgjphiaaGreatDoorGlAP
import Derived.Test.YtjcegdldgjphiaaGreatDoorGlAQ
set_option linter.unusedSimpArgs false
set_option linter.unusedVariables false
set_option maxRecDepth 100000
namespace Go.Proofs.YtjcegdldgjphiaaGreatDoor
open Go.RowKit Go.Shelf
theorem zfn {w0:World} (st:St) (v1:Int) (v2:St) (v3:Bool) (e1:((rdI st).1)=v1) (e2:((rdI st).2)=v2) (e3:(decide (v1<(0:Int)))=v3) (h4:v3=true):BFun false (KN w0) Tryz.prog 81 [.o (.c (.p 0 0))] [(62,[.d (pS (lfO st)),.d (pB (bdO st))])] (.o (.c (.d (pV (.int .i64 0))))) [(62,[.d (pV (.string ⟨#[]⟩)),.d (pV (.bool true))])] :=
 con_b (pan:=false) (zl (F:=FL [pS (lfO st),pB (bdO st),pI v1,pS (lfO v2),pB (bdO v2),pB v3] []) (C:=[(1000002,.call ⟨36,[.o (.c (.p 900 0))],[.bx 900 62 [.h 0,.h 1]],yh 2,[.bx 900 62 [.h 3,.h 4]]⟩),
  (1000005,.bin .lss 3 (yh 2) (LF (.k (.int .i64 0))) (yh 5)),
  (10005,.fb 5 true),
  (1000013,.call ⟨67,[.o (.c (.p 900 0))],[.bx 900 62 [.h 3,.h 4]],.t [],[.bx 900 62 [.k (.string ⟨#[]⟩),.k (.bool true)]]⟩)]) (k:=⟨81,[.o (.c (.p 900 0))],[.bx 900 62 [.h 0,.h 1]],.o (.c (.k (.int .i64 0))),[.bx 900 62 [.k (.string ⟨#[]⟩),.k (.bool true)]]⟩) 0 (zf ⟨zb,zb,zb,zb,zb,zb,trivial⟩) ⟨b_con (pan:=false) (qu st v1 v2 e1 e2),
  e_bin (za rfl) zd (za rfl) (r_cmp (congrArg some e3)),
  e_fbv h4,
  b_con (pan:=false) (zc2 v2),
  trivial⟩ mixed (by kernel_rfl))
theorem zfo {w0:World} (st:St) (v1:Int) (v2:St) (v3:Bool) (v5:Int) (v6:Bool) (e1:((rdI st).1)=v1) (e2:((rdI st).2)=v2) (e3:(decide (v1<(0:Int)))=v3) (e5:((leftN v2:Int))=v5) (e6:(decide (v1 > v5))=v6) (h4:v3=false) (h7:v6=true):BFun false (KN w0) Tryz.prog 81 [.o (.c (.p 0 0))] [(62,[.d (pS (lfO st)),.d (pB (bdO st))])] (.o (.c (.d (pV (.int .i64 0))))) [(62,[.d (pV (.string ⟨#[]⟩)),.d (pV (.bool true))])] :=
 con_b (pan:=false) (zl (F:=FL [pS (lfO st),pB (bdO st),pI v1,pS (lfO v2),pB (bdO v2),pB v3,pI v5,pB v6] []) (C:=[(1000002,.call ⟨36,[.o (.c (.p 900 0))],[.bx 900 62 [.h 0,.h 1]],yh 2,[.bx 900 62 [.h 3,.h 4]]⟩),
  (1000005,.bin .lss 3 (yh 2) (LF (.k (.int .i64 0))) (yh 5)),
  (10005,.fb 5 false),
  (1000009,.call ⟨21,[.o (.c (.p 900 0))],[.bx 900 62 [.h 3,.h 4]],yh 6,[.bx 900 62 [.h 3,.h 4]]⟩),
  (1000010,.bin .gtr 3 (yh 2) (yh 6) (yh 7)),
  (10007,.fb 7 true),
  (1000013,.call ⟨67,[.o (.c (.p 900 0))],[.bx 900 62 [.h 3,.h 4]],.t [],[.bx 900 62 [.k (.string ⟨#[]⟩),.k (.bool true)]]⟩)]) (k:=⟨81,[.o (.c (.p 900 0))],[.bx 900 62 [.h 0,.h 1]],.o (.c (.k (.int .i64 0))),[.bx 900 62 [.k (.string ⟨#[]⟩),.k (.bool true)]]⟩) 0 (zf ⟨zb,zb,zb,zb,zb,zb,zb,zb,trivial⟩) ⟨b_con (pan:=false) (qu st v1 v2 e1 e2),
  e_bin (za rfl) zd (za rfl) (r_cmp (congrArg some e3)),
  e_fbv h4,
  b_con (pan:=false) (zcU v2 v5 e5),
  e_bin (za rfl) (za rfl) (za rfl) (r_cmp (congrArg some e6)),
  e_fbv h7,
  b_con (pan:=false) (zc2 v2),
  trivial⟩ mixed (by kernel_rfl))
theorem zfp {w0:World} (st:St) (v1:Int) (v2:St) (v3:Bool) (v5:Int) (v6:Bool) (e1:((rdI st).1)=v1) (e2:((rdI st).2)=v2) (e3:(decide (v1<(0:Int)))=v3) (e5:((leftN v2:Int))=v5) (e6:(decide (v1 > v5))=v6) (h4:v3=false) (h7:v6=false):BFun false (KN w0) Tryz.prog 81 [.o (.c (.p 0 0))] [(62,[.d (pS (lfO st)),.d (pB (bdO st))])] (.o (.c (.d (pI v1)))) [(62,[.d (pS (lfO v2)),.d (pB (bdO v2))])] :=
 con_b (pan:=false) (zl (F:=FL [pS (lfO st),pB (bdO st),pI v1,pS (lfO v2),pB (bdO v2),pB v3,pI v5,pB v6] []) (C:=[(1000002,.call ⟨36,[.o (.c (.p 900 0))],[.bx 900 62 [.h 0,.h 1]],yh 2,[.bx 900 62 [.h 3,.h 4]]⟩),
  (1000005,.bin .lss 3 (yh 2) (LF (.k (.int .i64 0))) (yh 5)),
  (10005,.fb 5 false),
  (1000009,.call ⟨21,[.o (.c (.p 900 0))],[.bx 900 62 [.h 3,.h 4]],yh 6,[.bx 900 62 [.h 3,.h 4]]⟩),
  (1000010,.bin .gtr 3 (yh 2) (yh 6) (yh 7)),
  (10007,.fb 7 false)]) (k:=⟨81,[.o (.c (.p 900 0))],[.bx 900 62 [.h 0,.h 1]],yh 2,[.bx 900 62 [.h 3,.h 4]]⟩) 0 (zf ⟨zb,zb,zb,zb,zb,zb,zb,zb,trivial⟩) ⟨b_con (pan:=false) (qu st v1 v2 e1 e2),
  e_bin (za rfl) zd (za rfl) (r_cmp (congrArg some e3)),
  e_fbv h4,
  b_con (pan:=false) (zcU v2 v5 e5),
  e_bin (za rfl) (za rfl) (za rfl) (r_cmp (congrArg some e6)),
  e_fbv h7,
  trivial⟩ mixed (by kernel_rfl))
theorem zaf {w0:World} (st:St) (r:Int) (st2:St) (hr:(rdC st).1=r) (hs:(rdC st).2=st2):BFun false (KN w0) Tryz.prog 81 [.o (.c (.p 0 0))] [(62,[.d (pS (lfO st)),.d (pB (bdO st))])] (.o (.c (.d (pI r)))) [(62,[.d (pS (lfO st2)),.d (pB (bdO st2))])]:=by
 obtain ⟨v1,e1⟩:∃v,((rdI st).1)=v:=⟨_,rfl⟩
 obtain ⟨v2,e2⟩:∃v,((rdI st).2)=v:=⟨_,rfl⟩
 obtain ⟨v3,e3⟩:∃v,(decide (v1<(0:Int)))=v:=⟨_,rfl⟩
 cases h4:v3 with
 | true =>
  have r0:r=(0:Int):=by
   have dh4:=of_decide_eq_true (e3.trans h4)
   have hC:rdC st=(0,none):=by
    unfold rdC
    rw [e1,e2,if_pos (by omega)]
   first | rw [← hr,hC] | rw [← hs,hC]
  have r1:st2=none:=by
   have dh4:=of_decide_eq_true (e3.trans h4)
   have hC:rdC st=(0,none):=by
    unfold rdC
    rw [e1,e2,if_pos (by omega)]
   first | rw [← hr,hC] | rw [← hs,hC]
  rw [r0,r1];exact zfn st v1 v2 v3 e1 e2 e3 h4
 | false =>
  obtain ⟨v5,e5⟩:∃v,((leftN v2:Int))=v:=⟨_,rfl⟩
  obtain ⟨v6,e6⟩:∃v,(decide (v1 > v5))=v:=⟨_,rfl⟩
  cases h7:v6 with
  | true =>
   have r0:r=(0:Int):=by
    have dh4:=of_decide_eq_false (e3.trans h4)
    have dh7:=of_decide_eq_true (e6.trans h7)
    have hC:rdC st=(0,none):=by
     unfold rdC
     rw [e1,e2,if_pos (by omega)]
    first | rw [← hr,hC] | rw [← hs,hC]
   have r1:st2=none:=by
    have dh4:=of_decide_eq_false (e3.trans h4)
    have dh7:=of_decide_eq_true (e6.trans h7)
    have hC:rdC st=(0,none):=by
     unfold rdC
     rw [e1,e2,if_pos (by omega)]
    first | rw [← hr,hC] | rw [← hs,hC]
   rw [r0,r1];exact zfo st v1 v2 v3 v5 v6 e1 e2 e3 e5 e6 h4 h7
  | false =>
   have r0:r=v1:=by
    have dh4:=of_decide_eq_false (e3.trans h4)
    have dh7:=of_decide_eq_false (e6.trans h7)
    have hC:rdC st=(v1,v2):=by
     unfold rdC
     rw [e1,e2,if_neg (by omega)]
     exact Prod.ext e1 e2
    first | rw [← hr,hC] | rw [← hs,hC]
   have r1:st2=v2:=by
    have dh4:=of_decide_eq_false (e3.trans h4)
    have dh7:=of_decide_eq_false (e6.trans h7)
    have hC:rdC st=(v1,v2):=by
     unfold rdC
     rw [e1,e2,if_neg (by omega)]
     exact Prod.ext e1 e2
    first | rw [← hr,hC] | rw [← hs,hC]
   rw [r0,r1];exact zfp st v1 v2 v3 v5 v6 e1 e2 e3 e5 e6 h4 h7
theorem ziO {w0:World} (st:St) (v1:Int) (v2:St) (v3:Int) (v4:St) (v5:Int) (v6:St) (v7:Bool) (e1:((rdI st).1)=v1) (e2:((rdI st).2)=v2) (e3:((rdI v2).1)=v3) (e4:((rdI v2).2)=v4) (e5:((rdI v4).1)=v5) (e6:((rdI v4).2)=v6) (e7:(bdO v6)=v7) (h8:v7=true):BFun false (KN w0) Tryz.prog 54 [.o (.c (.p 0 0))] [(62,[.d (pS (lfO st)),.d (pB (bdO st))])] (.o (.g [.d (pV (.int .i64 0)),.d (pV (.int .i64 0)),.d (pV (.int .i64 0))])) [(62,[.d (pS (lfO v6)),.d (pB (bdO v6))])] :=
 con_b (pan:=false) (zl (F:=FL [pS (lfO st),pB (bdO st),pI v1,pS (lfO v2),pB (bdO v2),pI v3,pS (lfO v4),pB (bdO v4),pI v5,pS (lfO v6),pB (bdO v6),pB v7] []) (C:=[(1000002,.call ⟨36,[.o (.c (.p 900 0))],[.bx 900 62 [.h 0,.h 1]],yh 2,[.bx 900 62 [.h 3,.h 4]]⟩),
  (1000004,.call ⟨36,[.o (.c (.p 900 0))],[.bx 900 62 [.h 3,.h 4]],yh 5,[.bx 900 62 [.h 6,.h 7]]⟩),
  (1000006,.call ⟨36,[.o (.c (.p 900 0))],[.bx 900 62 [.h 6,.h 7]],yh 8,[.bx 900 62 [.h 9,.h 10]]⟩),
  (1000011,.call ⟨23,[.o (.c (.p 900 0))],[.bx 900 62 [.h 9,.h 10]],yh 11,[.bx 900 62 [.h 9,.h 10]]⟩),
  (10011,.fb 11 true)]) (k:=⟨54,[.o (.c (.p 900 0))],[.bx 900 62 [.h 0,.h 1]],.o (.g [.k (.int .i64 0),.k (.int .i64 0),.k (.int .i64 0)]),[.bx 900 62 [.h 9,.h 10]]⟩) 0 (zf ⟨zb,zb,zb,zb,zb,zb,zb,zb,zb,zb,zb,zb,trivial⟩) ⟨b_con (pan:=false) (qu st v1 v2 e1 e2),
  b_con (pan:=false) (qu v2 v3 v4 e3 e4),
  b_con (pan:=false) (qu v4 v5 v6 e5 e6),
  b_con (pan:=false) (w_bad v6 v7 e7),
  e_fbv h8,
  trivial⟩ mixed (by kernel_rfl))
theorem ziP {w0:World} (st:St) (v1:Int) (v2:St) (v3:Int) (v4:St) (v5:Int) (v6:St) (v7:Bool) (e1:((rdI st).1)=v1) (e2:((rdI st).2)=v2) (e3:((rdI v2).1)=v3) (e4:((rdI v2).2)=v4) (e5:((rdI v4).1)=v5) (e6:((rdI v4).2)=v6) (e7:(bdO v6)=v7) (h8:v7=false):BFun false (KN w0) Tryz.prog 54 [.o (.c (.p 0 0))] [(62,[.d (pS (lfO st)),.d (pB (bdO st))])] (.o (.g [.d (pI v1),.d (pI v3),.d (pI v5)])) [(62,[.d (pS (lfO v6)),.d (pB (bdO v6))])] :=
 con_b (pan:=false) (zl (F:=FL [pS (lfO st),pB (bdO st),pI v1,pS (lfO v2),pB (bdO v2),pI v3,pS (lfO v4),pB (bdO v4),pI v5,pS (lfO v6),pB (bdO v6),pB v7] []) (C:=[(1000002,.call ⟨36,[.o (.c (.p 900 0))],[.bx 900 62 [.h 0,.h 1]],yh 2,[.bx 900 62 [.h 3,.h 4]]⟩),
  (1000004,.call ⟨36,[.o (.c (.p 900 0))],[.bx 900 62 [.h 3,.h 4]],yh 5,[.bx 900 62 [.h 6,.h 7]]⟩),
  (1000006,.call ⟨36,[.o (.c (.p 900 0))],[.bx 900 62 [.h 6,.h 7]],yh 8,[.bx 900 62 [.h 9,.h 10]]⟩),
  (1000011,.call ⟨23,[.o (.c (.p 900 0))],[.bx 900 62 [.h 9,.h 10]],yh 11,[.bx 900 62 [.h 9,.h 10]]⟩),
  (10011,.fb 11 false)]) (k:=⟨54,[.o (.c (.p 900 0))],[.bx 900 62 [.h 0,.h 1]],.o (.g [.h 2,.h 5,.h 8]),[.bx 900 62 [.h 9,.h 10]]⟩) 0 (zf ⟨zb,zb,zb,zb,zb,zb,zb,zb,zb,zb,zb,zb,trivial⟩) ⟨b_con (pan:=false) (qu st v1 v2 e1 e2),
  b_con (pan:=false) (qu v2 v3 v4 e3 e4),
  b_con (pan:=false) (qu v4 v5 v6 e5 e6),
  b_con (pan:=false) (w_bad v6 v7 e7),
  e_fbv h8,
  trivial⟩ mixed (by kernel_rfl))
theorem zkE {w0:World} (st:St) (r:V3) (st2:St) (hr:(rdV st).1=r) (hs:(rdV st).2=st2):BFun false (KN w0) Tryz.prog 54 [.o (.c (.p 0 0))] [(62,[.d (pS (lfO st)),.d (pB (bdO st))])] (.o (.g [.d (pI r.1),.d (pI r.2.1),.d (pI r.2.2)])) [(62,[.d (pS (lfO st2)),.d (pB (bdO st2))])]:=by
 obtain ⟨v1,e1⟩:∃v,((rdI st).1)=v:=⟨_,rfl⟩
 obtain ⟨v2,e2⟩:∃v,((rdI st).2)=v:=⟨_,rfl⟩
 obtain ⟨v3,e3⟩:∃v,((rdI v2).1)=v:=⟨_,rfl⟩
 obtain ⟨v4,e4⟩:∃v,((rdI v2).2)=v:=⟨_,rfl⟩
 obtain ⟨v5,e5⟩:∃v,((rdI v4).1)=v:=⟨_,rfl⟩
 obtain ⟨v6,e6⟩:∃v,((rdI v4).2)=v:=⟨_,rfl⟩
 obtain ⟨v7,e7⟩:∃v,(bdO v6)=v:=⟨_,rfl⟩
 cases h8:v7 with
 | true =>
  have r0:r=((0:Int),(0:Int),(0:Int)):=by
   have hb:v6=none:=qe.1 (e7.trans h8)
   have hV:rdV st=((0,0,0),none):=by
    unfold rdV
    simp only [e2,e4,e6,hb]
   first | rw [← hr,hV] | rw [← hs,hV,hb]
  have r1:st2=v6:=by
   have hb:v6=none:=qe.1 (e7.trans h8)
   have hV:rdV st=((0,0,0),none):=by
    unfold rdV
    simp only [e2,e4,e6,hb]
   first | rw [← hr,hV] | rw [← hs,hV,hb]
  rw [r0,r1];exact ziO st v1 v2 v3 v4 v5 v6 v7 e1 e2 e3 e4 e5 e6 e7 h8
 | false =>
  have r0:r=(v1,v3,v5):=by
   obtain ⟨l,hl⟩:=zN.1 (e7.trans h8)
   have hV:rdV st=((v1,v3,v5),v6):=by
    unfold rdV
    simp only [e1,e2,e3,e4,e5,e6,hl]
   first | rw [← hr,hV] | rw [← hs,hV]
  have r1:st2=v6:=by
   obtain ⟨l,hl⟩:=zN.1 (e7.trans h8)
   have hV:rdV st=((v1,v3,v5),v6):=by
    unfold rdV
    simp only [e1,e2,e3,e4,e5,e6,hl]
   first | rw [← hr,hV] | rw [← hs,hV]
  rw [r0,r1];exact ziP st v1 v2 v3 v4 v5 v6 v7 e1 e2 e3 e4 e5 e6 e7 h8
theorem zfq {w0:World} (st:St) (v1:V3) (v2:St) (v3:Int) (v4:St) (e1:((rdV st).1)=v1) (e2:((rdV st).2)=v2) (e3:((rdI v2).1)=v3) (e4:((rdI v2).2)=v4):BFun false (KN w0) Tryz.prog 84 [.o (.c (.p 0 0))] [(62,[.d (pS (lfO st)),.d (pB (bdO st))])] (.o (.g [.d (pI v1.1),.d (pI v1.2.1),.d (pI v1.2.2),.d (pI v3)])) [(62,[.d (pS (lfO v4)),.d (pB (bdO v4))])] :=
 con_b (pan:=false) (zl (F:=FL [pS (lfO st),pB (bdO st),pI v1.1,pI v1.2.1,pI v1.2.2,pS (lfO v2),pB (bdO v2),pI v3,pS (lfO v4),pB (bdO v4)] []) (C:=[(1000002,.call ⟨54,[.o (.c (.p 900 0))],[.bx 900 62 [.h 0,.h 1]],.o (.g [.h 2,.h 3,.h 4]),[.bx 900 62 [.h 5,.h 6]]⟩),
  (1000004,.call ⟨36,[.o (.c (.p 900 0))],[.bx 900 62 [.h 5,.h 6]],yh 7,[.bx 900 62 [.h 8,.h 9]]⟩)]) (k:=⟨84,[.o (.c (.p 900 0))],[.bx 900 62 [.h 0,.h 1]],.o (.g [.h 2,.h 3,.h 4,.h 7]),[.bx 900 62 [.h 8,.h 9]]⟩) 0 (zf ⟨zb,zb,zb,zb,zb,zb,zb,zb,zb,zb,trivial⟩) ⟨b_con (pan:=false) (zkE st v1 v2 e1 e2),
  b_con (pan:=false) (qu v2 v3 v4 e3 e4),
  trivial⟩ mixed (by kernel_rfl))
theorem zkC {w0:World} (st:St) (r:Pl) (st2:St) (hr:(rdP st).1=r) (hs:(rdP st).2=st2):BFun false (KN w0) Tryz.prog 84 [.o (.c (.p 0 0))] [(62,[.d (pS (lfO st)),.d (pB (bdO st))])] (.o (.g [.d (pI r.1.1),.d (pI r.1.2.1),.d (pI r.1.2.2),.d (pI r.2)])) [(62,[.d (pS (lfO st2)),.d (pB (bdO st2))])]:=by
 obtain ⟨v1,e1⟩:∃v,((rdV st).1)=v:=⟨_,rfl⟩
 obtain ⟨v2,e2⟩:∃v,((rdV st).2)=v:=⟨_,rfl⟩
 obtain ⟨v3,e3⟩:∃v,((rdI v2).1)=v:=⟨_,rfl⟩
 obtain ⟨v4,e4⟩:∃v,((rdI v2).2)=v:=⟨_,rfl⟩
 have r0:r=(v1,v3):=by
  first | rw [← hr] | rw [← hs]
  unfold rdP
  simp_all
 have r1:st2=v4:=by
  first | rw [← hr] | rw [← hs]
  unfold rdP
  simp_all
 rw [r0,r1];exact zfq st v1 v2 v3 v4 e1 e2 e3 e4
end Go.Proofs.YtjcegdldgjphiaaGreatDoor
namespace Go.Proofs.YtjcegdldgjphiaaGreatDoor
open Go.RowKit Go.Shelf
theorem zkr {w0:World} {st:St} (h:bdO (rdC st).2=true) (_:St) (r:Int) (hr:(rdC st).1=r):BFun false (KN w0) Tryz.prog 81 [.o (.c (.p 0 0))] [(62,[.d (pS (lfO st)),.d (pB (bdO st))])] (.o (.c (.d (pI r)))) [(62,[.d (pV (.string ⟨#[]⟩)),.d (pV (.bool true))])]:=zaf st r none hr (qe.1 h)
theorem zlZ {w0:World} {st:St} (h:bdO (rdC st).2=false) (_:St) (r:Int) (l:List UInt8) (hr:(rdC st).1=r) (hl:lfO (rdC st).2=l):BFun false (KN w0) Tryz.prog 81 [.o (.c (.p 0 0))] [(62,[.d (pS (lfO st)),.d (pB (bdO st))])] (.o (.c (.d (pI r)))) [(62,[.d (pS l),.d (pV (.bool false))])]:=by
 obtain ⟨m,hm⟩:=zN.1 h
 have e:l=m:=by rw [← hl,hm];rfl
 subst e
 exact zaf st r (some l) hr hm
theorem zha {w0:World} (st:St) (v2:Int) (e2:((rdC st).1)=v2) (h1:bdO (rdC st).2=true):BFun false (KN w0) Tryz.prog 51 [.o (.c (.p 0 0))] [(62,[.d (pS (lfO st)),.d (pB (bdO st))])] (.o (.c (.d (pV (.string ⟨#[]⟩))))) [(62,[.d (pV (.string ⟨#[]⟩)),.d (pV (.bool true))])] :=
 con_b (pan:=false) (zl (F:=FL [pS (lfO st),pB (bdO st),pI v2] []) (C:=[(1000002,.call ⟨81,[.o (.c (.p 900 0))],[.bx 900 62 [.h 0,.h 1]],yh 2,[.bx 900 62 [.k (.string ⟨#[]⟩),.k (.bool true)]]⟩),
  (1000005,.call ⟨23,[.o (.c (.p 900 0))],[.bx 900 62 [.k (.string ⟨#[]⟩),.k (.bool true)]],.o (.c (.k (.bool true))),[.bx 900 62 [.k (.string ⟨#[]⟩),.k (.bool true)]]⟩)]) (k:=⟨51,[.o (.c (.p 900 0))],[.bx 900 62 [.h 0,.h 1]],.o (.c (.k (.string ⟨#[]⟩))),[.bx 900 62 [.k (.string ⟨#[]⟩),.k (.bool true)]]⟩) 0 (zf ⟨zb,zb,zb,trivial⟩) ⟨b_con (pan:=false) (zkr h1 st v2 e2),
  b_con (pan:=false) (zbU none),
  trivial⟩ mixed (by kernel_rfl))
theorem zhb {w0:World} (st:St) (v2:Int) (v3:(List UInt8)) (n4:Nat) (v6:(List UInt8)) (n8:Nat) (v10:(List UInt8)) (e2:((rdC st).1)=v2) (e3:(lfO (rdC st).2)=v3) (e6:((v3:List UInt8).take n4)=v6) (e10:((v3:List UInt8).drop n8)=v10) (h1:bdO (rdC st).2=false) (s5:v2=(n4:Int)) (s7:n4≤(v3:List UInt8).length) (s9:v2=(n8:Int)) (s11:n8≤(v3:List UInt8).length):BFun false (KN w0) Tryz.prog 51 [.o (.c (.p 0 0))] [(62,[.d (pS (lfO st)),.d (pB (bdO st))])] (.o (.c (.d (pS v6)))) [(62,[.d (pS v10),.d (pV (.bool false))])] :=
 con_b (pan:=false) (zl (F:=FL [pS (lfO st),pB (bdO st),pI v2,pS v3,pS v6,pS v10] []) (C:=[(1000002,.call ⟨81,[.o (.c (.p 900 0))],[.bx 900 62 [.h 0,.h 1]],yh 2,[.bx 900 62 [.h 3,.k (.bool false)]]⟩),
  (1000005,.call ⟨23,[.o (.c (.p 900 0))],[.bx 900 62 [.h 3,.k (.bool false)]],.o (.c (.k (.bool false))),[.bx 900 62 [.h 3,.k (.bool false)]]⟩),
  (1000011,.op (.sc 9 false true false) [yh 3,yh 2] [] (yh 4)),
  (1000019,.op (.sc 9 true false false) [yh 3,yh 2] [] (yh 5))]) (k:=⟨51,[.o (.c (.p 900 0))],[.bx 900 62 [.h 0,.h 1]],yh 4,[.bx 900 62 [.h 5,.k (.bool false)]]⟩) 0 (zf ⟨zb,zb,zb,zb,zb,zb,trivial⟩) ⟨b_con (pan:=false) (zlZ h1 st v2 v3 e2 e3),
  b_con (pan:=false) (zbU (some v3)),
  e_op2 (za rfl) (za rfl) (za rfl) (fun W=>by rw [← e6];exact zoq (by kernel_rfl) s5 s7 W),
  e_op2 (za rfl) (za rfl) (za rfl) (fun W=>by rw [← e10];exact ze1 (by kernel_rfl) s9 s11 W),
  trivial⟩ mixed (by kernel_rfl))
theorem zcm {w0:World} (st:St) (r:List UInt8) (st2:St) (hr:(rdT st).1=r) (hs:(rdT st).2=st2):BFun false (KN w0) Tryz.prog 51 [.o (.c (.p 0 0))] [(62,[.d (pS (lfO st)),.d (pB (bdO st))])] (.o (.c (.d (pS r)))) [(62,[.d (pS (lfO st2)),.d (pB (bdO st2))])]:=by
 cases h1:bdO (rdC st).2 with
 | true =>
  obtain ⟨v2,e2⟩:∃v,((rdC st).1)=v:=⟨_,rfl⟩
  have r0:r=[]:=by
   have hT:rdT st=([],none):=by
    unfold rdT
    rw [qe.1 h1]
   first | rw [← hr,hT] | rw [← hs,hT]
  have r1:st2=none:=by
   have hT:rdT st=([],none):=by
    unfold rdT
    rw [qe.1 h1]
   first | rw [← hr,hT] | rw [← hs,hT]
  rw [r0,r1];exact zha st v2 e2 h1
 | false =>
  obtain ⟨v2,e2⟩:∃v,((rdC st).1)=v:=⟨_,rfl⟩
  obtain ⟨v3,e3⟩:∃v,(lfO (rdC st).2)=v:=⟨_,rfl⟩
  obtain ⟨n4,s5⟩:∃(n4:Nat),v2=(n4:Int):=by (have h0:=q8 st;exact ⟨_,(Int.toNat_of_nonneg (by omega)).symm⟩)
  obtain ⟨v6,e6⟩:∃v,((v3:List UInt8).take n4)=v:=⟨_,rfl⟩
  have s7:n4≤(v3:List UInt8).length:=by (have h0:=zdw st;rw [zd3] at h0;subst_vars;omega)
  obtain ⟨n8,s9⟩:∃(n8:Nat),v2=(n8:Int):=by (have h0:=q8 st;exact ⟨_,(Int.toNat_of_nonneg (by omega)).symm⟩)
  obtain ⟨v10,e10⟩:∃v,((v3:List UInt8).drop n8)=v:=⟨_,rfl⟩
  have s11:n8≤(v3:List UInt8).length:=by (have h0:=zdw st;rw [zd3] at h0;subst_vars;omega)
  have r0:r=v6:=by
   obtain ⟨m,hm⟩:=zN.1 h1
   have e:v3=m:=by rw [← e3,hm];rfl
   have e8:n8=n4:=by omega
   have hT:rdT st=(v6,some v10):=by
    unfold rdT
    rw [hm]
    simp only []
    rw [e2,s5,Int.toNat_natCast,← e6,← e10,e,e8]
   first | rw [← hr,hT] | rw [← hs,hT]
  have r1:st2=some v10:=by
   obtain ⟨m,hm⟩:=zN.1 h1
   have e:v3=m:=by rw [← e3,hm];rfl
   have e8:n8=n4:=by omega
   have hT:rdT st=(v6,some v10):=by
    unfold rdT
    rw [hm]
    simp only []
    rw [e2,s5,Int.toNat_natCast,← e6,← e10,e,e8]
   first | rw [← hr,hT] | rw [← hs,hT]
  rw [r0,r1];exact zhb st v2 v3 n4 v6 n8 v10 e2 e3 e6 e10 h1 s5 s7 s9 s11
end Go.Proofs.YtjcegdldgjphiaaGreatDoor
namespace Go.Proofs.YtjcegdldgjphiaaGreatDoor
structure Sz (k:Nat) (p:Rat):Prop where
 n:p.num.natAbs<2 ^ k
 d:p.den<2 ^ k
theorem zef {j k:Nat} (h:j≤k):2 ^ j≤2 ^ k:=Nat.pow_le_pow_right (by decide) h
theorem znk {a b n k:Nat} (e:n=a*b) (h:k≤n):2 ^ k≤(2 ^ a) ^ b:=by rw [← Nat.pow_mul,← e];exact zef h
theorem zi2 {k:Nat} (h:k≤2048):2 ^ k≤big:=by
 have:=znk (a:=32) (b:=64) rfl h
 rw [show (2:Nat) ^ 32=4294967296 from rfl] at this
 exact this
theorem zaR {a b j k:Nat} (ha:a<2 ^ j) (hb:b<2 ^ k):a*b<2 ^ (j+k):=by
 rw [Nat.pow_add]
 exact Nat.mul_lt_mul'' ha hb
section
variable {j k m:Nat} {p q:Rat}
theorem Sz.mono (h:Sz k p) (hk:k≤m):Sz m p:=⟨Nat.lt_of_lt_of_le h.n (zef hk),Nat.lt_of_lt_of_le h.d (zef hk)⟩
theorem Sz.nb (h:Sz k p) (hk:k≤2048):p.num.natAbs<big:=Nat.lt_of_lt_of_le h.n (zi2 hk)
theorem Sz.db (h:Sz k p) (hk:k≤2048):p.den<big:=Nat.lt_of_lt_of_le h.d (zi2 hk)
theorem zeQ {x:Int} {d:Nat} (hd:d≠0) (hx:x.natAbs<2 ^ k) (hd2:d<2 ^ k):Sz k (Rat.divInt x d):=by
 obtain ⟨h1,h2⟩:=zh9 (x:=x) hd
 refine ⟨?_,?_⟩
 ·rw [h1,Int.natAbs_ediv_of_dvd zje,Int.natAbs_natCast]
  exact Nat.lt_of_le_of_lt (Nat.div_le_self _ _) hx
 ·rw [h2];exact Nat.lt_of_le_of_lt (Nat.div_le_self _ _) hd2
theorem zsW {x y:Int} (hy:y≠0) (hx:x.natAbs<2 ^ k) (hy2:y.natAbs<2 ^ k):Sz k (Rat.divInt x y):=by
 rcases Int.natAbs_eq y with h | h
 ·rw [h];exact zeQ (by omega) hx hy2
 ·rw [h,Rat.divInt_neg',]
  exact zeQ (by omega) (by rwa [Int.natAbs_neg]) hy2
theorem zkf {x y:Int} (hy:y≠0) (h:ofR x y=some p):p=Rat.divInt x y:=by
 unfold ofR at h;rw [if_neg hy] at h;exact (Option.some.inj h).symm
theorem zhq (p:Rat):(p.den:Int)≠0:=by have:=p.den_nz;omega
theorem zhn (hp:Sz j p) (hq:Sz k q):(p.num*q.den).natAbs<2 ^ (j+k):=by rw [Int.natAbs_mul,Int.natAbs_natCast];exact zaR hp.n hq.d
theorem Sz.add (hp:Sz j p) (hq:Sz k q):Sz (j+k+1) (p+q):=by
 rw [zkf (Int.mul_ne_zero (zhq p) (zhq q)) (zn0 p q),← Int.natCast_mul]
 have h1:=zhn hp hq
 have h2:=zhn hq hp
 rw [Nat.add_comm] at h2
 have h3:=zaR hp.d hq.d
 refine zeQ (Nat.mul_ne_zero p.den_nz q.den_nz) ?_ ?_
 ·rw [Nat.pow_succ];omega
 ·rw [Nat.pow_succ];omega
theorem Sz.mul (hp:Sz j p) (hq:Sz k q):Sz (j+k) (p*q):=by
 rw [zkf (Int.mul_ne_zero (zhq p) (zhq q)) (zoi p q),← Int.natCast_mul]
 exact zeQ (Nat.mul_ne_zero p.den_nz q.den_nz) (by rw [Int.natAbs_mul];exact zaR hp.n hq.n) (zaR hp.d hq.d)
theorem Sz.neg (hp:Sz k p):Sz k (-p):=⟨by rw [Rat.neg_num,Int.natAbs_neg];exact hp.n,by rw [Rat.neg_den];exact hp.d⟩
theorem Sz.sub (hp:Sz j p) (hq:Sz k q):Sz (j+k+1) (p - q):=by rw [Rat.sub_eq_add_neg];exact hp.add hq.neg
theorem rr_sz (h:Sz k p) (hk:k≤2048):rrX (rq (some p)).1 (rq (some p)).2=true:=rrX_q (h.nb hk) (h.db hk)
theorem num97 {l:List Int} (h:l.length≤3):(numL l).natAbs<2 ^ 97:=Nat.lt_of_le_of_lt (zri l h) (by decide +kernel)
theorem zvK (l:List Int):∃p,madeR l=some p∧Sz 97 p:=by
 have h:∃x y:Int,madeR l=ofR x y∧y≠0∧x.natAbs<2 ^ 97∧y.natAbs<2 ^ 97:=by
  have s1:∀x:Int,x.natAbs≤100→x.natAbs<2 ^ 97:=fun x hx=>Nat.lt_of_le_of_lt hx (by decide +kernel)
  unfold madeR
  split
  ·refine ⟨_,_,rfl,?_,s1 _ ?_,s1 _ ?_⟩
   ·split
    ·have:=Int.emod_nonneg (l.getD 1 0) (show (30:Int)≠0 by decide);omega
    ·decide
   ·split
    ·have:=zqy (l.getD 0 0);omega
    ·decide
   ·split
    ·have:=Int.emod_nonneg (l.getD 1 0) (show (30:Int)≠0 by decide)
     have:=Int.emod_lt_of_pos (l.getD 1 0) (show (0:Int)<30 by decide)
     omega
    ·decide
  ·refine ⟨_,_,rfl,?_,num97 (by rw [List.length_take];omega),?_⟩
   ·split
    ·decide
    ·assumption
   ·split
    ·exact s1 _ (by decide)
    ·exact num97 (by rw [List.length_take];omega)
 obtain ⟨x,y,e,hy,h1,h2⟩:=h
 exact ⟨Rat.divInt x y,by rw [e];unfold ofR;rw [if_neg hy],zsW hy h1 h2⟩
end
section
variable {p q r:Rat}
end
end Go.Proofs.YtjcegdldgjphiaaGreatDoor
namespace Go.Proofs.YtjcegdldgjphiaaGreatDoor
theorem zrT {v:Nat} (h:v<2 ^ 97):(Lib.decDigits v).length≤30:=by
 by_cases h0:v=0
 ·subst h0;rw [zcd];simp
 ·rw [zdm v h0]
  have h1:=Nat.lt_of_le_of_lt (zn7 v h0) (Nat.lt_trans h (show 2 ^ 97<10 ^ 30 by decide +kernel))
  have:=(Nat.pow_lt_pow_iff_right (a:=10) (by decide)).1 h1
  omega
theorem zqX {x:Int} (h:x.natAbs<2 ^ 97):(Lib.itoa x).length≤31:=by
 unfold Lib.itoa
 split
 ·rw [List.length_cons]
  have:=zrT h
  omega
 ·have:=zrT (v:=x.toNat) (by omega)
  omega
theorem zuQ:∀v:Nat,∀c∈dd v,c≠47:=by
 intro v
 induction v using Nat.strongRecOn with
 | _ v ih =>
  intro c hc
  by_cases h:v=0
  ·subst h;rw [zax] at hc;cases hc
  ·rw [zdn h,List.mem_append] at hc
   rcases hc with hc | hc
   ·exact ih _ (by omega) c hc
   ·rw [List.mem_singleton] at hc
    subst hc
    intro e
    have:=congrArg UInt8.toNat e
    revert this
    have h10:v%10<10:=Nat.mod_lt _ (by decide)
    revert h10
    generalize v%10=d
    intro h10
    match d,h10 with
    | 0,_ | 1,_ | 2,_ | 3,_ | 4,_ | 5,_ | 6,_ | 7,_ | 8,_ | 9,_=>decide
    | d+10,h=>omega
theorem zrU (v:Nat):∀c∈Lib.decDigits v,c≠47:=by
 by_cases h0:v=0
 ·subst h0;rw [zcd];intro c hc;rw [List.mem_singleton] at hc;subst hc;decide
 ·rw [zdm v h0];exact zuQ v
theorem zsZ (x:Int):∀c∈Lib.itoa x,c≠47:=by
 unfold Lib.itoa
 split
 ·intro c hc
  rcases List.mem_cons.1 hc with rfl | hc
  ·decide
  ·exact zrU _ c hc
 ·exact zrU _
theorem ztn {s:List UInt8} (h:∀c∈s,c≠47):qt s=s.length:=by
 unfold qt
 rw [List.findIdx_eq_length]
 intro c hc
 simpa using h c hc
theorem zto {s t:List UInt8} (h:∀c∈s,c≠47):qt (s++[47]++t)=s.length:=by
 unfold qt
 induction s with
 | nil=>simp [List.findIdx_cons]
 | cons c s ih =>
  have hc:(c == 47)=false:=by simpa using h c (List.mem_cons_self ..)
  rw [List.cons_append,List.cons_append,List.findIdx_cons,hc,cond_false,List.length_cons]
  congr 1
  exact ih fun d hd=>h d (List.mem_cons_of_mem _ hd)
section
variable {p:Rat}
theorem zsQ {x:Int} (h:x.natAbs<big):textS (nz x).1 (nz x).2=Lib.itoa x:=ziB h
theorem zsP {k:Nat} (h:Sz k p) (hk:k≤2048):textR (rq (some p))=if p.den=1 then Lib.itoa p.num else Lib.itoa p.num++[47]++Lib.itoa (p.den:Int):=by
 have e1:textS (rq (some p)).1.1 (rq (some p)).1.2=Lib.itoa p.num:=zsQ (h.nb hk)
 have e2:textS (rq (some p)).2.1 (rq (some p)).2.2=Lib.itoa (p.den:Int):=zsQ (x:=(p.den:Int)) (by rw [Int.natAbs_natCast];exact h.db hk)
 have e3:cmpX (rq (some p)).2 (nz 1)=cmpI (p.den:Int) 1:=zi9 (by rw [Int.natAbs_natCast];exact h.db hk) (zdq (by decide))
 unfold textR
 rw [if_pos (rr_sz h hk),e1,e2,e3]
 have:(cmpI (p.den:Int) 1=0)↔p.den=1:=by
  unfold cmpI
  split
  ·constructor<;>intro h<;>omega
  ·split
   ·constructor<;>intro h<;>omega
   ·constructor<;>intro h<;>omega
 simp only [this]
theorem zud (h:Sz 97 p):(textR (rq (some p))).length≤63:=by
 rw [zsP h (by decide)]
 have h1:=zqX h.n
 have h2:=zqX (x:=(p.den:Int)) (by rw [Int.natAbs_natCast];exact h.d)
 split
 ·omega
 ·simp only [List.length_append,List.length_cons,List.length_nil];omega
theorem zrZ {k:Nat} (h:Sz k p) (hk:k≤2048):rawP (textR (rq (some p)))=rq (some p)∧okO (zn (zhg (textR (rq (some p)))))=true∧okO (zn (zeJ (textR (rq (some p)))))=true:=by
 have a1:=zpC (h.nb hk)
 have a2:=zpC (x:=(p.den:Int)) (by rw [Int.natAbs_natCast];exact h.db hk)
 have hs:=zsZ p.num
 obtain ⟨t,ht⟩:∃t,textR (rq (some p))=t:=⟨_,rfl⟩
 rw [ht]
 rw [zsP h hk] at ht
 have key:zhg t=Lib.itoa p.num∧zn (zeJ t)=some (p.den:Int):=by
  by_cases hd:p.den=1
  ·rw [if_pos hd] at ht
   subst ht
   unfold zhg zeJ
   rw [ztn hs,if_neg (by omega),List.take_length]
   refine ⟨rfl,?_⟩
   rw [hd,show ([49]:List UInt8)=Lib.itoa 1 by decide +kernel]
   exact zpC (x:=1) (zdq (by decide))
  ·rw [if_neg hd] at ht
   subst ht
   unfold zhg zeJ
   rw [zto hs,if_pos (by simp),List.append_assoc,List.take_left]
   refine ⟨rfl,?_⟩
   rw [← List.append_assoc,List.drop_append_of_le_length (by simp)]
   rw [List.drop_of_length_le (by simp),List.nil_append]
   exact a2
 refine ⟨?_,?_,?_⟩
 ·unfold rawP
  rw [key.1,key.2,a1];rfl
 ·rw [key.1,a1];rfl
 ·rw [key.2];rfl
theorem zsN {k:Nat} (h:Sz k p) (hk:k≤2048):okP (textR (rq (some p)))=true:=by
 obtain ⟨h1,h2,h3⟩:=zrZ h hk
 unfold okP
 rw [h1,h2,h3,rr_sz h hk]
 simp
theorem zt5 {k:Nat} (h:Sz k p) (hk:k≤2048):parR (textR (rq (some p)))=rq (some p):=by
 unfold parR
 rw [if_pos (zsN h hk)]
 exact (zrZ h hk).1
end
theorem zqq (l:List Int):∃t,textR (rq (madeR l))=t∧t.length≤63∧okP t=true∧parR t=rq (madeR l):=by
 obtain ⟨p,e,h⟩:=zvK l
 rw [e]
 exact ⟨_,rfl,zud h,zsN h (by decide),zt5 h (by decide)⟩
end Go.Proofs.YtjcegdldgjphiaaGreatDoor
namespace Go.Proofs.YtjcegdldgjphiaaGreatDoor
open Go.RowKit Go.Shelf
def rdR (st:St):RR×St:=match (rdT st).2 with
 | none=>(rq none,none)
 | some l=>if okP (rdT st).1=true then (parR (rdT st).1,some l) else (rq none,none)
end Go.Proofs.YtjcegdldgjphiaaGreatDoor
namespace Go.Proofs.YtjcegdldgjphiaaGreatDoor
open Go.RowKit Go.Shelf
structure w_li_l_T where
 s:St
 o:(List Int)
def zV:List Atom:=[.sl 0 (.o (.c (.p 900 0))),.sl 1 (.o (.c (.m 36 900 0))),.sl 4 (.o (.c (.k (.slice none 0 0)))),.sl 5 (yh 2),.sl 6 (.o (.c (.gr 901))),.sl 7 (.o (.c (.p 900 0))),.sl 8 (yh 2),.bx 900 62 [.h 5,.h 6],.gl 901 3 1 1]
def qB:LoopS:=⟨3,[.sl 0 (.o (.c (.p 900 0))),.sl 1 (.o (.c (.m 36 900 0))),.sl 4 (.o (.c (.k (.slice none 0 0)))),.sl 5 (yh 2),.sl 6 (.o (.c (.gr 901))),.sl 7 (.o (.c (.p 900 0))),.sl 8 (yh 2),.bx 900 62 [.h 3,.h 4],.gl 901 3 1 0],(.x 0),[.sl 0 (.o (.c (.p 900 0))),.sl 1 (.o (.c (.m 36 900 0))),.sl 4 (.o (.c (.k (.slice none 0 0)))),.sl 5 (yh 2),.sl 6 (.o (.c (.gr 901))),.sl 7 (.o (.c (.p 900 0))),.sl 8 (yh 2),.bx 900 62 [.h 5,.h 6],.gl 901 3 1 1]⟩
theorem zku {w0:World} (st:St) (v1:Int) (v2:St) (s:St) (o:(List Int)) (v501:Int) (v502:Bool) (v504:Bool) (v505:Bool) (v507:Int) (v508:St) (v509:(List Int)) (e501:((o.length:Int))=v501) (e502:(decide (v501<v1))=v502) (e504:(bdO s)=v504) (e505:(!v504)=v505) (e507:((rdI s).1)=v507) (e508:((rdI s).2)=v508) (e509:(o++[v507])=v509) (h503:v502=true) (h506:v505=true) (s510:(o.length+1)*1≤1099511627776) (s':St) (o':(List Int)) (q0:(v508)=s') (q1:(v509)=o') (R:Frm) (hR:R.pm=⟨ntOf Tryz.prog 66,[900],[]⟩):Goes (KN w0) Tryz.prog R (lp Tryz.prog 66 0) (FL [pS (lfO st),pB (bdO st),pI v1,pS (lfO v2),pB (bdO v2),pS (lfO s),pB (bdO s)] [pG cI ([]:List Int),pG cI o]) zV .n (FL [pS (lfO st),pB (bdO st),pI v1,pS (lfO v2),pB (bdO v2),pS (lfO s'),pB (bdO s')] [pG cI ([]:List Int),pG cI o']) zV:=
 goes (x:=.n) (y:=.n) (Fb:=FL [pS (lfO st),pB (bdO st),pI v1,pS (lfO v2),pB (bdO v2),pS (lfO s),pB (bdO s),pI v501,pB v502,pB v504,pB v505,pI v507,pS (lfO v508),pB (bdO v508)] [pG cI ([]:List Int),pG cI o,pG cI v509]) (stb:=zV) (tl:=[.sl 0 (.o (.c (.p 900 0))),.sl 1 (.o (.c (.m 36 900 0))),.sl 4 (.o (.c (.k (.slice none 0 0)))),.sl 5 (yh 2),.sl 6 (.o (.c (.gr 901))),.sl 7 (.o (.c (.p 900 0))),.sl 8 (yh 2),.bx 900 62 [.h 12,.h 13],.gl 901 3 1 2]) (C:=((1005001,.op (.len [22] 3) [LF (.gr 901)] [.gl 901 3 1 1] (yh 7)) ::
  (1005003,.bin .lss 3 (yh 7) (yh 2) (yh 8)) ::
  (10008,.fb 8 true) ::
  (1005006,.call ⟨23,[.o (.c (.p 900 0))],[.bx 900 62 [.h 5,.h 6]],yh 9,[.bx 900 62 [.h 5,.h 6]]⟩) ::
  (1005007,.un .not (yh 9) (yh 10)) ::
  (10010,.fb 10 true) ::
  (1005011,.call ⟨36,[.o (.c (.p 900 0))],[.bx 900 62 [.h 5,.h 6]],yh 11,[.bx 900 62 [.h 12,.h 13]]⟩) ::
  (1005013,.app 3 1 901 1 2 (.o (.c (.s 5012 0 1 1))) [.bx 5012 3 [.h 11]] false) ::
  []:List (Nat×Ent))) (H:=.no) 5000 (zipA.imp ⟨z_c yy,z_c yy,z_c yy,z_c yy,z_c yy,z_c yy,z_c yy,z_b ⟨yy,yy,trivial⟩,z_gl (fun _ _ _ h=>h),trivial⟩) (zf ⟨zb,zb,zb,zb,zb,zb,zb,zb,zb,zb,zb,zb,zb,zb,trivial⟩ ⟨(zm zo),(zm zo),(zm zo),trivial⟩) ⟨zbY (c:=cI) (by kernel_rfl) (fun _=>rfl) (by decide) rfl (za (by rw [← e501];rfl)),
  e_bin (za rfl) (za rfl) (za rfl) (r_cmp (congrArg some e502)),
  e_fbv h503,
  b_con (pan:=false) (w_bad s v504 e504),
  e_un (za rfl) (za rfl) (fun W=>by rw [← e505];exact r_not W),
  e_fbv h506,
  b_con (pan:=false) (qu s v507 v508 e507 e508),
  zht (c:=cI) (x:=v507) zo (fun _=>rfl) (.inr ⟨rfl,rfl⟩) (by rw [e509];rfl) rfl (fun _ _ _ h=>h) rfl s510,
  trivial⟩ mixed hR trivial (fun _ _ _ hs=>by cases hs) (by kernel_rfl:zz (KN w0) Tryz.prog _ .no ⟨ntOf Tryz.prog 66,[900],[]⟩ (lp Tryz.prog 66 0) 5000 zV .n [.sl 0 (.o (.c (.p 900 0))),.sl 1 (.o (.c (.m 36 900 0))),.sl 4 (.o (.c (.k (.slice none 0 0)))),.sl 5 (yh 2),.sl 6 (.o (.c (.gr 901))),.sl 7 (.o (.c (.p 900 0))),.sl 8 (yh 2),.bx 900 62 [.h 12,.h 13],.gl 901 3 1 2]=true) rfl (zipA.imp ⟨z_c yy,z_c yy,z_c yy,z_c yy,z_c yy,z_c yy,z_c yy,z_b ⟨fun β v W h=>(zc rfl β v W).2 (by rw [← q0];exact h),fun β v W h=>(zc rfl β v W).2 (by rw [← q0];exact h),trivial⟩,z_gq rfl (by rw [q1];rfl),trivial⟩)
theorem zkv {w0:World} (st:St) (v1:Int) (v2:St) (s:St) (o:(List Int)) (v501:Int) (v502:Bool) (v504:Bool) (v505:Bool) (e501:((o.length:Int))=v501) (e502:(decide (v501<v1))=v502) (e504:(bdO s)=v504) (e505:(!v504)=v505) (h503:v502=true) (h506:v505=false) (s2:St) (o2:(List Int)) (F:Fact) (u2:F.c 2=pI v1) (u3:F.c 3=pS (lfO v2)) (u4:F.c 4=pB (bdO v2)) (u5:F.c 5=pS (lfO s2)) (u6:F.c 6=pB (bdO s2)) (ug0:F.g 0=pG cI ([]:List Int)) (ug1:F.g 1=pG cI o2) (q0:(s)=s2) (q1:(o)=o2) (R:Frm) (hR:R.pm=⟨ntOf Tryz.prog 66,[900],[]⟩):Goes (KN w0) Tryz.prog R (lp Tryz.prog 66 0) (FL [pS (lfO st),pB (bdO st),pI v1,pS (lfO v2),pB (bdO v2),pS (lfO s),pB (bdO s)] [pG cI ([]:List Int),pG cI o]) zV (.x 0) F qB.out:=
 goes (x:=(.x 0)) (y:=(.x 0)) (Fb:=FL [pS (lfO st),pB (bdO st),pI v1,pS (lfO v2),pB (bdO v2),pS (lfO s),pB (bdO s),pI v501,pB v502,pB v504,pB v505] [pG cI ([]:List Int),pG cI o]) (stb:=zV) (tl:=[.sl 0 (.o (.c (.p 900 0))),.sl 1 (.o (.c (.m 36 900 0))),.sl 4 (.o (.c (.k (.slice none 0 0)))),.sl 5 (yh 2),.sl 6 (.o (.c (.gr 901))),.sl 7 (.o (.c (.p 900 0))),.sl 8 (yh 2),.bx 900 62 [.h 5,.h 6],.gl 901 3 1 1]) (C:=((1005001,.op (.len [22] 3) [LF (.gr 901)] [.gl 901 3 1 1] (yh 7)) ::
  (1005003,.bin .lss 3 (yh 7) (yh 2) (yh 8)) ::
  (10008,.fb 8 true) ::
  (1005006,.call ⟨23,[.o (.c (.p 900 0))],[.bx 900 62 [.h 5,.h 6]],yh 9,[.bx 900 62 [.h 5,.h 6]]⟩) ::
  (1005007,.un .not (yh 9) (yh 10)) ::
  (10010,.fb 10 false) ::
  []:List (Nat×Ent))) (H:=.no) 5000 (zipA.imp ⟨z_c yy,z_c yy,z_c yy,z_c yy,z_c yy,z_c yy,z_c yy,z_b ⟨yy,yy,trivial⟩,z_gl (fun _ _ _ h=>h),trivial⟩) (zf ⟨zb,zb,zb,zb,zb,zb,zb,zb,zb,zb,zb,trivial⟩ ⟨(zm zo),(zm zo),trivial⟩) ⟨zbY (c:=cI) (by kernel_rfl) (fun _=>rfl) (by decide) rfl (za (by rw [← e501];rfl)),
  e_bin (za rfl) (za rfl) (za rfl) (r_cmp (congrArg some e502)),
  e_fbv h503,
  b_con (pan:=false) (w_bad s v504 e504),
  e_un (za rfl) (za rfl) (fun W=>by rw [← e505];exact r_not W),
  e_fbv h506,
  trivial⟩ mixed hR trivial (fun _ _ _ hs=>by cases hs) (by kernel_rfl:zz (KN w0) Tryz.prog _ .no ⟨ntOf Tryz.prog 66,[900],[]⟩ (lp Tryz.prog 66 0) 5000 zV (.x 0) [.sl 0 (.o (.c (.p 900 0))),.sl 1 (.o (.c (.m 36 900 0))),.sl 4 (.o (.c (.k (.slice none 0 0)))),.sl 5 (yh 2),.sl 6 (.o (.c (.gr 901))),.sl 7 (.o (.c (.p 900 0))),.sl 8 (yh 2),.bx 900 62 [.h 5,.h 6],.gl 901 3 1 1]=true) rfl (zipA.imp ⟨z_c yy,z_c yy,z_c yy,z_c (fun β v W h=>(zc u2 β v W).2 h),z_c yy,z_c yy,z_c (fun β v W h=>(zc u2 β v W).2 h),z_b ⟨fun β v W h=>(zc u5 β v W).2 (by rw [← q0];exact h),fun β v W h=>(zc u6 β v W).2 (by rw [← q0];exact h),trivial⟩,z_gq rfl (by rw [q1];exact ug1),trivial⟩)
theorem zkw {w0:World} (st:St) (v1:Int) (v2:St) (s:St) (o:(List Int)) (v501:Int) (v502:Bool) (e501:((o.length:Int))=v501) (e502:(decide (v501<v1))=v502) (h503:v502=false) (s2:St) (o2:(List Int)) (F:Fact) (u2:F.c 2=pI v1) (u3:F.c 3=pS (lfO v2)) (u4:F.c 4=pB (bdO v2)) (u5:F.c 5=pS (lfO s2)) (u6:F.c 6=pB (bdO s2)) (ug0:F.g 0=pG cI ([]:List Int)) (ug1:F.g 1=pG cI o2) (q0:(s)=s2) (q1:(o)=o2) (R:Frm) (hR:R.pm=⟨ntOf Tryz.prog 66,[900],[]⟩):Goes (KN w0) Tryz.prog R (lp Tryz.prog 66 0) (FL [pS (lfO st),pB (bdO st),pI v1,pS (lfO v2),pB (bdO v2),pS (lfO s),pB (bdO s)] [pG cI ([]:List Int),pG cI o]) zV (.x 0) F qB.out:=
 goes (x:=(.x 0)) (y:=(.x 0)) (Fb:=FL [pS (lfO st),pB (bdO st),pI v1,pS (lfO v2),pB (bdO v2),pS (lfO s),pB (bdO s),pI v501,pB v502] [pG cI ([]:List Int),pG cI o]) (stb:=zV) (tl:=[.sl 0 (.o (.c (.p 900 0))),.sl 1 (.o (.c (.m 36 900 0))),.sl 4 (.o (.c (.k (.slice none 0 0)))),.sl 5 (yh 2),.sl 6 (.o (.c (.gr 901))),.sl 7 (.o (.c (.p 900 0))),.sl 8 (yh 2),.bx 900 62 [.h 5,.h 6],.gl 901 3 1 1]) (C:=((1005001,.op (.len [22] 3) [LF (.gr 901)] [.gl 901 3 1 1] (yh 7)) ::
  (1005003,.bin .lss 3 (yh 7) (yh 2) (yh 8)) ::
  (10008,.fb 8 false) ::
  []:List (Nat×Ent))) (H:=.no) 5000 (zipA.imp ⟨z_c yy,z_c yy,z_c yy,z_c yy,z_c yy,z_c yy,z_c yy,z_b ⟨yy,yy,trivial⟩,z_gl (fun _ _ _ h=>h),trivial⟩) (zf ⟨zb,zb,zb,zb,zb,zb,zb,zb,zb,trivial⟩ ⟨(zm zo),(zm zo),trivial⟩) ⟨zbY (c:=cI) (by kernel_rfl) (fun _=>rfl) (by decide) rfl (za (by rw [← e501];rfl)),
  e_bin (za rfl) (za rfl) (za rfl) (r_cmp (congrArg some e502)),
  e_fbv h503,
  trivial⟩ mixed hR trivial (fun _ _ _ hs=>by cases hs) (by kernel_rfl:zz (KN w0) Tryz.prog _ .no ⟨ntOf Tryz.prog 66,[900],[]⟩ (lp Tryz.prog 66 0) 5000 zV (.x 0) [.sl 0 (.o (.c (.p 900 0))),.sl 1 (.o (.c (.m 36 900 0))),.sl 4 (.o (.c (.k (.slice none 0 0)))),.sl 5 (yh 2),.sl 6 (.o (.c (.gr 901))),.sl 7 (.o (.c (.p 900 0))),.sl 8 (yh 2),.bx 900 62 [.h 5,.h 6],.gl 901 3 1 1]=true) rfl (zipA.imp ⟨z_c yy,z_c yy,z_c yy,z_c (fun β v W h=>(zc u2 β v W).2 h),z_c yy,z_c yy,z_c (fun β v W h=>(zc u2 β v W).2 h),z_b ⟨fun β v W h=>(zc u5 β v W).2 (by rw [← q0];exact h),fun β v W h=>(zc u6 β v W).2 (by rw [← q0];exact h),trivial⟩,z_gq rfl (by rw [q1];exact ug1),trivial⟩)
def zl1 (st:St) (v1:Int) (v2:St) (t:w_li_l_T) (s2:St) (o2:(List Int)):Prop:=(∃(v501:Int),∃(v502:Bool),∃(v504:Bool),∃(v505:Bool),(((t.o.length:Int))=v501)∧((decide (v501<v1))=v502)∧((bdO t.s)=v504)∧((!v504)=v505)∧(v502=true)∧(v505=false)∧((t.s)=s2)∧((t.o)=o2)∧True)∨(∃(v501:Int),∃(v502:Bool),(((t.o.length:Int))=v501)∧((decide (v501<v1))=v502)∧(v502=false)∧((t.s)=s2)∧((t.o)=o2)∧True)
def zl0 (st:St) (v1:Int) (v2:St) (t t':w_li_l_T):Prop:=(∃(v501:Int),∃(v502:Bool),∃(v504:Bool),∃(v505:Bool),∃(v507:Int),∃(v508:St),∃(v509:(List Int)),(((t.o.length:Int))=v501)∧((decide (v501<v1))=v502)∧((bdO t.s)=v504)∧((!v504)=v505)∧(((rdI t.s).1)=v507)∧(((rdI t.s).2)=v508)∧((t.o++[v507])=v509)∧(v502=true)∧(v505=true)∧((t.o.length+1)*1≤1099511627776)∧((v508)=t'.s)∧((v509)=t'.o)∧True)
theorem zg2 {w0:World} (st:St) (v1:Int) (v2:St) (s2:St) (o2:(List Int)) {F:Fact} (u2:F.c 2=pI v1) (u3:F.c 3=pS (lfO v2)) (u4:F.c 4=pB (bdO v2)) (u5:F.c 5=pS (lfO s2)) (u6:F.c 6=pB (bdO s2)) (ug0:F.g 0=pG cI ([]:List Int)) (ug1:F.g 1=pG cI o2) (R:Frm) (hR:R.pm=⟨ntOf Tryz.prog 66,[900],[]⟩) (J:w_li_l_T→Prop) (m:w_li_l_T→Nat) (hJ:J { s:=v2,o:=([]:List Int) }) (rounds:∀t,J t→zl1 st v1 v2 t s2 o2∨∃t',zl0 st v1 v2 t t'∧m t'<m t∧J t'):zg (KN w0) Tryz.prog F R qB (lp Tryz.prog 66 0):=by
 refine zP (T:=w_li_l_T) (fun t=>FL [pS (lfO st),pB (bdO st),pI v1,pS (lfO v2),pB (bdO v2),pS (lfO t.s),pB (bdO t.s)] [pG cI ([]:List Int),pG cI t.o]) J m { s:=v2,o:=([]:List Int) } zV hJ (zipA.imp ⟨z_c yy,z_c yy,z_c yy,z_c (fun β v W h=>(zc u2 β v W).1 h),z_c yy,z_c yy,z_c (fun β v W h=>(zc u2 β v W).1 h),z_b ⟨fun β v W h=>(zc u3 β v W).1 h,fun β v W h=>(zc u4 β v W).1 h,trivial⟩,z_gq ug0 rfl,trivial⟩) rfl fun t ht=>?_
 rcases rounds t ht with hz_ | ⟨t',hz_,hm_,hj_⟩
 ·refine .inl ?_
  rcases hz_ with ⟨v501,v502,v504,v505,e501,e502,e504,e505,h503,h506,q0,q1,_⟩ | ⟨v501,v502,e501,e502,h503,q0,q1,_⟩
  ·exact zkv  st v1 v2  t.s t.o v501 v502 v504 v505 e501 e502 e504 e505 h503 h506 s2 o2 F u2 u3 u4 u5 u6 ug0 ug1 q0 q1 R hR
  ·exact zkw  st v1 v2  t.s t.o v501 v502 e501 e502 h503 s2 o2 F u2 u3 u4 u5 u6 ug0 ug1 q0 q1 R hR
 ·refine .inr ⟨t',hm_,hj_,?_⟩
  rcases hz_ with ⟨v501,v502,v504,v505,v507,v508,v509,e501,e502,e504,e505,e507,e508,e509,h503,h506,s510,q0,q1,_⟩
  ·exact zku  st v1 v2  t.s t.o v501 v502 v504 v505 v507 v508 v509 e501 e502 e504 e505 e507 e508 e509 h503 h506 s510 t'.s t'.o q0 q1 R hR
theorem zfd {w0:World} (st:St) (v1:Int) (v2:St) (s2:St) (o2:(List Int)) {F:Fact} (u2:F.c 2=pI v1) (u3:F.c 3=pS (lfO v2)) (u4:F.c 4=pB (bdO v2)) (u5:F.c 5=pS (lfO s2)) (u6:F.c 6=pB (bdO s2)) (ug0:F.g 0=pG cI ([]:List Int)) (ug1:F.g 1=pG cI o2) (R:Frm) (hR:R.pm=⟨ntOf Tryz.prog 66,[900],[]⟩) (hn0:0≤v1) (hb:v1≤1000000) (hO:s2=(rdN rdI v1.toNat [] v2).2∧o2=(rdN rdI v1.toNat [] v2).1):zg (KN w0) Tryz.prog F R qB (lp Tryz.prog 66 0):=by
 refine zg2  st v1 v2  s2 o2 u2 u3 u4 u5 u6 ug0 ug1 R hR (fun ⟨s,o⟩=>o.length≤v1.toNat∧rdN rdI v1.toNat [] v2=rdN rdI (v1.toNat - o.length) o s) (fun ⟨s,o⟩=>v1.toNat - o.length) ⟨Nat.zero_le _,rfl⟩ fun t hJ=>?_
 obtain ⟨s,o⟩:=t
 dsimp only at hJ
 obtain ⟨hle,hJ⟩:=hJ
 obtain ⟨v501,e501⟩:∃v,((o.length:Int))=v:=⟨_,rfl⟩
 obtain ⟨v502,e502⟩:∃v,(decide (v501<v1))=v:=⟨_,rfl⟩
 cases h503:v502 with
 | true =>
  obtain ⟨v504,e504⟩:∃v,(bdO s)=v:=⟨_,rfl⟩
  obtain ⟨v505,e505⟩:∃v,(!v504)=v:=⟨_,rfl⟩
  cases h506:v505 with
  | true =>
   obtain ⟨v507,e507⟩:∃v,((rdI s).1)=v:=⟨_,rfl⟩
   obtain ⟨v508,e508⟩:∃v,((rdI s).2)=v:=⟨_,rfl⟩
   obtain ⟨v509,e509⟩:∃v,(o++[v507])=v:=⟨_,rfl⟩
   have s510:(o.length+1)*1≤1099511627776:=by (have d:=of_decide_eq_true (e502.trans h503);omega)
   refine .inr ⟨⟨v508,v509⟩,⟨v501,v502,v504,v505,v507,v508,v509,e501,e502,e504,e505,e507,e508,e509,h503,h506,s510,rfl,rfl,trivial⟩,?_,?_⟩
   all_goals (have d:=of_decide_eq_true (e502.trans h503);have hz:bdO s=false:=(by rw [e504];cases v504<;>simp_all);obtain ⟨m,hm⟩:=zN.1 hz;have hl:v509.length=o.length+1:=(by rw [← e509,List.length_append];rfl))
   ·show v1.toNat - v509.length<v1.toNat - o.length
    omega
   ·refine ⟨by show v509.length≤_;omega,?_⟩
    show _=rdN rdI (v1.toNat - v509.length) v509 v508
    rw [hJ,show v1.toNat - o.length=(v1.toNat - v509.length)+1 by omega,hm,rdN,← hm,e507,e508,e509]
  | false =>
   refine .inl (Or.inl (⟨v501,v502,v504,v505,e501,e502,e504,e505,h503,h506,?_,?_,trivial⟩))
   all_goals (have hz:s=none:=qe.1 (by rw [e504];cases v504<;>simp_all);rw [hJ,hz,qY] at hO)
   ·rw [hz,hO.1]
   ·rw [hO.2]
 | false =>
  refine .inl (Or.inr (⟨v501,v502,e501,e502,h503,?_,?_,trivial⟩))
  all_goals (have d:=of_decide_eq_false (e502.trans h503);rw [hJ,show v1.toNat - o.length=0 by omega,rdN] at hO)
  ·rw [hO.1]
  ·rw [hO.2]
theorem znJ {w0:World} (st:St) (v1:Int) (v2:St) (s2:St) (o2:(List Int)) (v3:Bool) (e1:((rdC st).1)=v1) (e2:((rdC st).2)=v2) (e3:(bdO s2)=v3) (h4:v3=true) (L_w_li_l:∀R:Frm,R.pm=⟨ntOf Tryz.prog 66,[900],[]⟩→zg (KN w0) Tryz.prog (FL [pS (lfO st),pB (bdO st),pI v1,pS (lfO v2),pB (bdO v2),pS (lfO s2),pB (bdO s2),pB v3,pLs cI o2] [pG cI ([]:List Int),pG cI o2]) R qB (lp Tryz.prog 66 0)):BFun false (KN w0) Tryz.prog 66 [.o (.c (.p 0 0)),.o (.c (.m 36 0 0))] [(62,[.d (pS (lfO st)),.d (pB (bdO st))])] (.o (.c (.d (pV (.slice none 0 0))))) [(62,[.d (pS (lfO s2)),.d (pB (bdO s2))])] :=
 con_b (pan:=false) (z8 (F:=FL [pS (lfO st),pB (bdO st),pI v1,pS (lfO v2),pB (bdO v2),pS (lfO s2),pB (bdO s2),pB v3,pLs cI o2] [pG cI ([]:List Int),pG cI o2]) (C:=[(1000002,.call ⟨81,[.o (.c (.p 900 0))],[.bx 900 62 [.h 0,.h 1]],yh 2,[.bx 900 62 [.h 3,.h 4]]⟩),
  (1001006,.call ⟨23,[.o (.c (.p 900 0))],[.bx 900 62 [.h 5,.h 6]],yh 7,[.bx 900 62 [.h 5,.h 6]]⟩),
  (10007,.fb 7 true)]) (k:=⟨66,[.o (.c (.p 900 0)),.o (.c (.m 36 900 0))],[.bx 900 62 [.h 0,.h 1]],.o (.c (.k (.slice none 0 0))),[.bx 900 62 [.h 5,.h 6]]⟩) ⟨[qB],[⟨2,[.sl 6 (.o (.c (.k (.slice none 0 0)))),.gn 901],[.sl 6 (.o (.c (.gr 901))),.gl 901 3 1 0],[]⟩,⟨5,.gl 901 3 1 1::[6].map (fun s=>.sl s (.o (.c (.gr 901)))),[6].map (fun s=>.sl s (yh 8)),[901]⟩],0⟩ [901] 0 (zf ⟨zb,zb,zb,zb,zb,zb,zb,zb,(zt zo),trivial⟩ ⟨(zm zo),(zm zo),trivial⟩) ⟨b_con (pan:=false) (zaf st v1 v2 e1 e2),
  b_con (pan:=false) (w_bad s2 v3 e3),
  e_fbv h4,
  trivial⟩ mixed ⟨zan (c:=cI) rfl,zbi (c:=cI) (fun _=>rfl) (by decide) zo rfl rfl,trivial⟩ (fun R hR p hp s hs=>by
 have hl:zH (qg Tryz.prog 66)=[(3,lp Tryz.prog 66 0)]:=by kernel_rfl
 rw [hl] at hp
 simp only [List.mem_cons,List.not_mem_nil,or_false] at hp
 rcases hp with rfl
 ·have e:s=qB:=(Option.some.inj hs).symm
  subst e;exact L_w_li_l R hR) (by kernel_rfl))
theorem znK {w0:World} (st:St) (v1:Int) (v2:St) (s2:St) (o2:(List Int)) (v3:Bool) (e1:((rdC st).1)=v1) (e2:((rdC st).2)=v2) (e3:(bdO s2)=v3) (h4:v3=false) (L_w_li_l:∀R:Frm,R.pm=⟨ntOf Tryz.prog 66,[900],[]⟩→zg (KN w0) Tryz.prog (FL [pS (lfO st),pB (bdO st),pI v1,pS (lfO v2),pB (bdO v2),pS (lfO s2),pB (bdO s2),pB v3,pLs cI o2] [pG cI ([]:List Int),pG cI o2]) R qB (lp Tryz.prog 66 0)):BFun false (KN w0) Tryz.prog 66 [.o (.c (.p 0 0)),.o (.c (.m 36 0 0))] [(62,[.d (pS (lfO st)),.d (pB (bdO st))])] (.o (.c (.d (pLs cI o2)))) [(62,[.d (pS (lfO s2)),.d (pB (bdO s2))])] :=
 con_b (pan:=false) (z8 (F:=FL [pS (lfO st),pB (bdO st),pI v1,pS (lfO v2),pB (bdO v2),pS (lfO s2),pB (bdO s2),pB v3,pLs cI o2] [pG cI ([]:List Int),pG cI o2]) (C:=[(1000002,.call ⟨81,[.o (.c (.p 900 0))],[.bx 900 62 [.h 0,.h 1]],yh 2,[.bx 900 62 [.h 3,.h 4]]⟩),
  (1001006,.call ⟨23,[.o (.c (.p 900 0))],[.bx 900 62 [.h 5,.h 6]],yh 7,[.bx 900 62 [.h 5,.h 6]]⟩),
  (10007,.fb 7 false)]) (k:=⟨66,[.o (.c (.p 900 0)),.o (.c (.m 36 900 0))],[.bx 900 62 [.h 0,.h 1]],yh 8,[.bx 900 62 [.h 5,.h 6]]⟩) ⟨[qB],[⟨2,[.sl 6 (.o (.c (.k (.slice none 0 0)))),.gn 901],[.sl 6 (.o (.c (.gr 901))),.gl 901 3 1 0],[]⟩,⟨5,.gl 901 3 1 1::[6].map (fun s=>.sl s (.o (.c (.gr 901)))),[6].map (fun s=>.sl s (yh 8)),[901]⟩],0⟩ [901] 0 (zf ⟨zb,zb,zb,zb,zb,zb,zb,zb,(zt zo),trivial⟩ ⟨(zm zo),(zm zo),trivial⟩) ⟨b_con (pan:=false) (zaf st v1 v2 e1 e2),
  b_con (pan:=false) (w_bad s2 v3 e3),
  e_fbv h4,
  trivial⟩ mixed ⟨zan (c:=cI) rfl,zbi (c:=cI) (fun _=>rfl) (by decide) zo rfl rfl,trivial⟩ (fun R hR p hp s hs=>by
 have hl:zH (qg Tryz.prog 66)=[(3,lp Tryz.prog 66 0)]:=by kernel_rfl
 rw [hl] at hp
 simp only [List.mem_cons,List.not_mem_nil,or_false] at hp
 rcases hp with rfl
 ·have e:s=qB:=(Option.some.inj hs).symm
  subst e;exact L_w_li_l R hR) (by kernel_rfl))
theorem w_li {w0:World} (st:St) (r:List Int) (st2:St) (hr:(rdL rdI st).1=r) (hs:(rdL rdI st).2=st2) (hle:leftN (rdC st).2≤1000000):BFun false (KN w0) Tryz.prog 66 [.o (.c (.p 0 0)),.o (.c (.m 36 0 0))] [(62,[.d (pS (lfO st)),.d (pB (bdO st))])] (.o (.c (.d (pLs cI r)))) [(62,[.d (pS (lfO st2)),.d (pB (bdO st2))])]:=by
 obtain ⟨v1,e1⟩:∃v,((rdC st).1)=v:=⟨_,rfl⟩
 obtain ⟨v2,e2⟩:∃v,((rdC st).2)=v:=⟨_,rfl⟩
 obtain ⟨s2,o2,hO_w_li_l⟩:∃(s2:St) (o2:(List Int)),s2=(rdN rdI v1.toNat [] v2).2∧o2=(rdN rdI v1.toNat [] v2).1:=⟨_,_,rfl,rfl⟩
 obtain ⟨v3,e3⟩:∃v,(bdO s2)=v:=⟨_,rfl⟩
 cases h4:v3 with
 | true =>
  have r0:r=[]:=by
   have hb:s2=none:=qe.1 (e3.trans h4)
   have hL:rdL rdI st=([],s2):=by
    unfold rdL
    rw [e1,e2,← hO_w_li_l.1,hb]
   first | rw [← hr,hL] | rw [← hs,hL]
  have r1:st2=s2:=by
   have hb:s2=none:=qe.1 (e3.trans h4)
   have hL:rdL rdI st=([],s2):=by
    unfold rdL
    rw [e1,e2,← hO_w_li_l.1,hb]
   first | rw [← hr,hL] | rw [← hs,hL]
  rw [r0,r1];exact BFun.imp (znJ st v1 v2 s2 o2 v3 e1 e2 e3 h4 (fun R hR=>zfd st v1 v2  s2 o2 rfl rfl rfl rfl rfl rfl rfl R hR (by rw [← e1];exact q8 st) (by have h0:=zdw st;have h1:=hle;rw [← e1];have h2:=q8 st;omega) hO_w_li_l)) (fun _ _ _ _ h=>zjJ h) (fun _ _ _ h=>h)
 | false =>
  have r0:r=o2:=by
   obtain ⟨m,hm⟩:=zN.1 (e3.trans h4)
   have hL:rdL rdI st=(o2,s2):=by
    unfold rdL
    rw [e1,e2,← hO_w_li_l.1,← hO_w_li_l.2,hm]
   first | rw [← hr,hL] | rw [← hs,hL]
  have r1:st2=s2:=by
   obtain ⟨m,hm⟩:=zN.1 (e3.trans h4)
   have hL:rdL rdI st=(o2,s2):=by
    unfold rdL
    rw [e1,e2,← hO_w_li_l.1,← hO_w_li_l.2,hm]
   first | rw [← hr,hL] | rw [← hs,hL]
  rw [r0,r1];exact znK st v1 v2 s2 o2 v3 e1 e2 e3 h4 (fun R hR=>zfd st v1 v2  s2 o2 rfl rfl rfl rfl rfl rfl rfl R hR (by rw [← e1];exact q8 st) (by have h0:=zdw st;have h1:=hle;rw [← e1];have h2:=q8 st;omega) hO_w_li_l)
end Go.Proofs.YtjcegdldgjphiaaGreatDoor
namespace Go.Proofs.YtjcegdldgjphiaaGreatDoor
open Go.RowKit Go.Shelf
def cPl (p:Pl):List Pred:=[pI p.1.1,pI p.1.2.1,pI p.1.2.2,pI p.2]
theorem zx {w0:World} (x:Pl):FineAll (KN w0) (cPl x):=⟨zb,zb,zb,zb,trivial⟩
structure w_lp_l_T where
 s:St
 o:(List Pl)
def zW:List Atom:=[.sl 0 (.o (.c (.p 900 0))),.sl 1 (.o (.c (.m 84 900 0))),.sl 4 (.o (.c (.k (.slice none 0 0)))),.sl 5 (yh 2),.sl 6 (.o (.c (.gr 901))),.sl 7 (.o (.c (.p 900 0))),.sl 8 (yh 2),.bx 900 62 [.h 5,.h 6],.gl 901 69 4 1]
def qC:LoopS:=⟨3,[.sl 0 (.o (.c (.p 900 0))),.sl 1 (.o (.c (.m 84 900 0))),.sl 4 (.o (.c (.k (.slice none 0 0)))),.sl 5 (yh 2),.sl 6 (.o (.c (.gr 901))),.sl 7 (.o (.c (.p 900 0))),.sl 8 (yh 2),.bx 900 62 [.h 3,.h 4],.gl 901 69 4 0],(.x 0),[.sl 0 (.o (.c (.p 900 0))),.sl 1 (.o (.c (.m 84 900 0))),.sl 4 (.o (.c (.k (.slice none 0 0)))),.sl 5 (yh 2),.sl 6 (.o (.c (.gr 901))),.sl 7 (.o (.c (.p 900 0))),.sl 8 (yh 2),.bx 900 62 [.h 5,.h 6],.gl 901 69 4 1]⟩
theorem zkx {w0:World} (st:St) (v1:Int) (v2:St) (s:St) (o:(List Pl)) (v501:Int) (v502:Bool) (v504:Bool) (v505:Bool) (v507:Pl) (v508:St) (v509:(List Pl)) (e501:((o.length:Int))=v501) (e502:(decide (v501<v1))=v502) (e504:(bdO s)=v504) (e505:(!v504)=v505) (e507:((rdP s).1)=v507) (e508:((rdP s).2)=v508) (e509:(o++[v507])=v509) (h503:v502=true) (h506:v505=true) (s510:(o.length+1)*4≤1099511627776) (s':St) (o':(List Pl)) (q0:(v508)=s') (q1:(v509)=o') (R:Frm) (hR:R.pm=⟨ntOf Tryz.prog 83,[900],[]⟩):Goes (KN w0) Tryz.prog R (lp Tryz.prog 83 0) (FL [pS (lfO st),pB (bdO st),pI v1,pS (lfO v2),pB (bdO v2),pS (lfO s),pB (bdO s)] [pG cPl ([]:List Pl),pG cPl o]) zW .n (FL [pS (lfO st),pB (bdO st),pI v1,pS (lfO v2),pB (bdO v2),pS (lfO s'),pB (bdO s')] [pG cPl ([]:List Pl),pG cPl o']) zW:=
 goes (x:=.n) (y:=.n) (Fb:=FL [pS (lfO st),pB (bdO st),pI v1,pS (lfO v2),pB (bdO v2),pS (lfO s),pB (bdO s),pI v501,pB v502,pB v504,pB v505,pI v507.1.1,pI v507.1.2.1,pI v507.1.2.2,pI v507.2,pS (lfO v508),pB (bdO v508)] [pG cPl ([]:List Pl),pG cPl o,pG cPl v509]) (stb:=zW) (tl:=[.sl 0 (.o (.c (.p 900 0))),.sl 1 (.o (.c (.m 84 900 0))),.sl 4 (.o (.c (.k (.slice none 0 0)))),.sl 5 (yh 2),.sl 6 (.o (.c (.gr 901))),.sl 7 (.o (.c (.p 900 0))),.sl 8 (yh 2),.bx 900 62 [.h 15,.h 16],.gl 901 69 4 2]) (C:=((1005001,.op (.len [25] 3) [LF (.gr 901)] [.gl 901 69 4 1] (yh 7)) ::
  (1005003,.bin .lss 3 (yh 7) (yh 2) (yh 8)) ::
  (10008,.fb 8 true) ::
  (1005006,.call ⟨23,[.o (.c (.p 900 0))],[.bx 900 62 [.h 5,.h 6]],yh 9,[.bx 900 62 [.h 5,.h 6]]⟩) ::
  (1005007,.un .not (yh 9) (yh 10)) ::
  (10010,.fb 10 true) ::
  (1005011,.call ⟨84,[.o (.c (.p 900 0))],[.bx 900 62 [.h 5,.h 6]],.o (.g [.h 11,.h 12,.h 13,.h 14]),[.bx 900 62 [.h 15,.h 16]]⟩) ::
  (1005013,.app 69 4 901 1 2 (.o (.c (.s 5012 0 1 1))) [.bx 5012 69 [.h 11,.h 12,.h 13,.h 14]] false) ::
  []:List (Nat×Ent))) (H:=.no) 5000 (zipA.imp ⟨z_c yy,z_c yy,z_c yy,z_c yy,z_c yy,z_c yy,z_c yy,z_b ⟨yy,yy,trivial⟩,z_gl (fun _ _ _ h=>h),trivial⟩) (zf ⟨zb,zb,zb,zb,zb,zb,zb,zb,zb,zb,zb,zb,zb,zb,zb,zb,zb,trivial⟩ ⟨(zm zx),(zm zx),(zm zx),trivial⟩) ⟨zbY (c:=cPl) (by kernel_rfl) (fun _=>rfl) (by decide) rfl (za (by rw [← e501];rfl)),
  e_bin (za rfl) (za rfl) (za rfl) (r_cmp (congrArg some e502)),
  e_fbv h503,
  b_con (pan:=false) (w_bad s v504 e504),
  e_un (za rfl) (za rfl) (fun W=>by rw [← e505];exact r_not W),
  e_fbv h506,
  b_con (pan:=false) (zkC s v507 v508 e507 e508),
  zht (c:=cPl) (x:=v507) zx (fun _=>rfl) (.inr ⟨rfl,rfl⟩) (by rw [e509];rfl) rfl (fun _ _ _ h=>h) rfl s510,
  trivial⟩ mixed hR trivial (fun _ _ _ hs=>by cases hs) (by kernel_rfl:zz (KN w0) Tryz.prog _ .no ⟨ntOf Tryz.prog 83,[900],[]⟩ (lp Tryz.prog 83 0) 5000 zW .n [.sl 0 (.o (.c (.p 900 0))),.sl 1 (.o (.c (.m 84 900 0))),.sl 4 (.o (.c (.k (.slice none 0 0)))),.sl 5 (yh 2),.sl 6 (.o (.c (.gr 901))),.sl 7 (.o (.c (.p 900 0))),.sl 8 (yh 2),.bx 900 62 [.h 15,.h 16],.gl 901 69 4 2]=true) rfl (zipA.imp ⟨z_c yy,z_c yy,z_c yy,z_c yy,z_c yy,z_c yy,z_c yy,z_b ⟨fun β v W h=>(zc rfl β v W).2 (by rw [← q0];exact h),fun β v W h=>(zc rfl β v W).2 (by rw [← q0];exact h),trivial⟩,z_gq rfl (by rw [q1];rfl),trivial⟩)
theorem zky {w0:World} (st:St) (v1:Int) (v2:St) (s:St) (o:(List Pl)) (v501:Int) (v502:Bool) (v504:Bool) (v505:Bool) (e501:((o.length:Int))=v501) (e502:(decide (v501<v1))=v502) (e504:(bdO s)=v504) (e505:(!v504)=v505) (h503:v502=true) (h506:v505=false) (s2:St) (o2:(List Pl)) (F:Fact) (u2:F.c 2=pI v1) (u3:F.c 3=pS (lfO v2)) (u4:F.c 4=pB (bdO v2)) (u5:F.c 5=pS (lfO s2)) (u6:F.c 6=pB (bdO s2)) (ug0:F.g 0=pG cPl ([]:List Pl)) (ug1:F.g 1=pG cPl o2) (q0:(s)=s2) (q1:(o)=o2) (R:Frm) (hR:R.pm=⟨ntOf Tryz.prog 83,[900],[]⟩):Goes (KN w0) Tryz.prog R (lp Tryz.prog 83 0) (FL [pS (lfO st),pB (bdO st),pI v1,pS (lfO v2),pB (bdO v2),pS (lfO s),pB (bdO s)] [pG cPl ([]:List Pl),pG cPl o]) zW (.x 0) F qC.out:=
 goes (x:=(.x 0)) (y:=(.x 0)) (Fb:=FL [pS (lfO st),pB (bdO st),pI v1,pS (lfO v2),pB (bdO v2),pS (lfO s),pB (bdO s),pI v501,pB v502,pB v504,pB v505] [pG cPl ([]:List Pl),pG cPl o]) (stb:=zW) (tl:=[.sl 0 (.o (.c (.p 900 0))),.sl 1 (.o (.c (.m 84 900 0))),.sl 4 (.o (.c (.k (.slice none 0 0)))),.sl 5 (yh 2),.sl 6 (.o (.c (.gr 901))),.sl 7 (.o (.c (.p 900 0))),.sl 8 (yh 2),.bx 900 62 [.h 5,.h 6],.gl 901 69 4 1]) (C:=((1005001,.op (.len [25] 3) [LF (.gr 901)] [.gl 901 69 4 1] (yh 7)) ::
  (1005003,.bin .lss 3 (yh 7) (yh 2) (yh 8)) ::
  (10008,.fb 8 true) ::
  (1005006,.call ⟨23,[.o (.c (.p 900 0))],[.bx 900 62 [.h 5,.h 6]],yh 9,[.bx 900 62 [.h 5,.h 6]]⟩) ::
  (1005007,.un .not (yh 9) (yh 10)) ::
  (10010,.fb 10 false) ::
  []:List (Nat×Ent))) (H:=.no) 5000 (zipA.imp ⟨z_c yy,z_c yy,z_c yy,z_c yy,z_c yy,z_c yy,z_c yy,z_b ⟨yy,yy,trivial⟩,z_gl (fun _ _ _ h=>h),trivial⟩) (zf ⟨zb,zb,zb,zb,zb,zb,zb,zb,zb,zb,zb,trivial⟩ ⟨(zm zx),(zm zx),trivial⟩) ⟨zbY (c:=cPl) (by kernel_rfl) (fun _=>rfl) (by decide) rfl (za (by rw [← e501];rfl)),
  e_bin (za rfl) (za rfl) (za rfl) (r_cmp (congrArg some e502)),
  e_fbv h503,
  b_con (pan:=false) (w_bad s v504 e504),
  e_un (za rfl) (za rfl) (fun W=>by rw [← e505];exact r_not W),
  e_fbv h506,
  trivial⟩ mixed hR trivial (fun _ _ _ hs=>by cases hs) (by kernel_rfl:zz (KN w0) Tryz.prog _ .no ⟨ntOf Tryz.prog 83,[900],[]⟩ (lp Tryz.prog 83 0) 5000 zW (.x 0) [.sl 0 (.o (.c (.p 900 0))),.sl 1 (.o (.c (.m 84 900 0))),.sl 4 (.o (.c (.k (.slice none 0 0)))),.sl 5 (yh 2),.sl 6 (.o (.c (.gr 901))),.sl 7 (.o (.c (.p 900 0))),.sl 8 (yh 2),.bx 900 62 [.h 5,.h 6],.gl 901 69 4 1]=true) rfl (zipA.imp ⟨z_c yy,z_c yy,z_c yy,z_c (fun β v W h=>(zc u2 β v W).2 h),z_c yy,z_c yy,z_c (fun β v W h=>(zc u2 β v W).2 h),z_b ⟨fun β v W h=>(zc u5 β v W).2 (by rw [← q0];exact h),fun β v W h=>(zc u6 β v W).2 (by rw [← q0];exact h),trivial⟩,z_gq rfl (by rw [q1];exact ug1),trivial⟩)
theorem zkz {w0:World} (st:St) (v1:Int) (v2:St) (s:St) (o:(List Pl)) (v501:Int) (v502:Bool) (e501:((o.length:Int))=v501) (e502:(decide (v501<v1))=v502) (h503:v502=false) (s2:St) (o2:(List Pl)) (F:Fact) (u2:F.c 2=pI v1) (u3:F.c 3=pS (lfO v2)) (u4:F.c 4=pB (bdO v2)) (u5:F.c 5=pS (lfO s2)) (u6:F.c 6=pB (bdO s2)) (ug0:F.g 0=pG cPl ([]:List Pl)) (ug1:F.g 1=pG cPl o2) (q0:(s)=s2) (q1:(o)=o2) (R:Frm) (hR:R.pm=⟨ntOf Tryz.prog 83,[900],[]⟩):Goes (KN w0) Tryz.prog R (lp Tryz.prog 83 0) (FL [pS (lfO st),pB (bdO st),pI v1,pS (lfO v2),pB (bdO v2),pS (lfO s),pB (bdO s)] [pG cPl ([]:List Pl),pG cPl o]) zW (.x 0) F qC.out:=
 goes (x:=(.x 0)) (y:=(.x 0)) (Fb:=FL [pS (lfO st),pB (bdO st),pI v1,pS (lfO v2),pB (bdO v2),pS (lfO s),pB (bdO s),pI v501,pB v502] [pG cPl ([]:List Pl),pG cPl o]) (stb:=zW) (tl:=[.sl 0 (.o (.c (.p 900 0))),.sl 1 (.o (.c (.m 84 900 0))),.sl 4 (.o (.c (.k (.slice none 0 0)))),.sl 5 (yh 2),.sl 6 (.o (.c (.gr 901))),.sl 7 (.o (.c (.p 900 0))),.sl 8 (yh 2),.bx 900 62 [.h 5,.h 6],.gl 901 69 4 1]) (C:=((1005001,.op (.len [25] 3) [LF (.gr 901)] [.gl 901 69 4 1] (yh 7)) ::
  (1005003,.bin .lss 3 (yh 7) (yh 2) (yh 8)) ::
  (10008,.fb 8 false) ::
  []:List (Nat×Ent))) (H:=.no) 5000 (zipA.imp ⟨z_c yy,z_c yy,z_c yy,z_c yy,z_c yy,z_c yy,z_c yy,z_b ⟨yy,yy,trivial⟩,z_gl (fun _ _ _ h=>h),trivial⟩) (zf ⟨zb,zb,zb,zb,zb,zb,zb,zb,zb,trivial⟩ ⟨(zm zx),(zm zx),trivial⟩) ⟨zbY (c:=cPl) (by kernel_rfl) (fun _=>rfl) (by decide) rfl (za (by rw [← e501];rfl)),
  e_bin (za rfl) (za rfl) (za rfl) (r_cmp (congrArg some e502)),
  e_fbv h503,
  trivial⟩ mixed hR trivial (fun _ _ _ hs=>by cases hs) (by kernel_rfl:zz (KN w0) Tryz.prog _ .no ⟨ntOf Tryz.prog 83,[900],[]⟩ (lp Tryz.prog 83 0) 5000 zW (.x 0) [.sl 0 (.o (.c (.p 900 0))),.sl 1 (.o (.c (.m 84 900 0))),.sl 4 (.o (.c (.k (.slice none 0 0)))),.sl 5 (yh 2),.sl 6 (.o (.c (.gr 901))),.sl 7 (.o (.c (.p 900 0))),.sl 8 (yh 2),.bx 900 62 [.h 5,.h 6],.gl 901 69 4 1]=true) rfl (zipA.imp ⟨z_c yy,z_c yy,z_c yy,z_c (fun β v W h=>(zc u2 β v W).2 h),z_c yy,z_c yy,z_c (fun β v W h=>(zc u2 β v W).2 h),z_b ⟨fun β v W h=>(zc u5 β v W).2 (by rw [← q0];exact h),fun β v W h=>(zc u6 β v W).2 (by rw [← q0];exact h),trivial⟩,z_gq rfl (by rw [q1];exact ug1),trivial⟩)
def zl3 (st:St) (v1:Int) (v2:St) (t:w_lp_l_T) (s2:St) (o2:(List Pl)):Prop:=(∃(v501:Int),∃(v502:Bool),∃(v504:Bool),∃(v505:Bool),(((t.o.length:Int))=v501)∧((decide (v501<v1))=v502)∧((bdO t.s)=v504)∧((!v504)=v505)∧(v502=true)∧(v505=false)∧((t.s)=s2)∧((t.o)=o2)∧True)∨(∃(v501:Int),∃(v502:Bool),(((t.o.length:Int))=v501)∧((decide (v501<v1))=v502)∧(v502=false)∧((t.s)=s2)∧((t.o)=o2)∧True)
def zl2 (st:St) (v1:Int) (v2:St) (t t':w_lp_l_T):Prop:=(∃(v501:Int),∃(v502:Bool),∃(v504:Bool),∃(v505:Bool),∃(v507:Pl),∃(v508:St),∃(v509:(List Pl)),(((t.o.length:Int))=v501)∧((decide (v501<v1))=v502)∧((bdO t.s)=v504)∧((!v504)=v505)∧(((rdP t.s).1)=v507)∧(((rdP t.s).2)=v508)∧((t.o++[v507])=v509)∧(v502=true)∧(v505=true)∧((t.o.length+1)*4≤1099511627776)∧((v508)=t'.s)∧((v509)=t'.o)∧True)
theorem zg3 {w0:World} (st:St) (v1:Int) (v2:St) (s2:St) (o2:(List Pl)) {F:Fact} (u2:F.c 2=pI v1) (u3:F.c 3=pS (lfO v2)) (u4:F.c 4=pB (bdO v2)) (u5:F.c 5=pS (lfO s2)) (u6:F.c 6=pB (bdO s2)) (ug0:F.g 0=pG cPl ([]:List Pl)) (ug1:F.g 1=pG cPl o2) (R:Frm) (hR:R.pm=⟨ntOf Tryz.prog 83,[900],[]⟩) (J:w_lp_l_T→Prop) (m:w_lp_l_T→Nat) (hJ:J { s:=v2,o:=([]:List Pl) }) (rounds:∀t,J t→zl3 st v1 v2 t s2 o2∨∃t',zl2 st v1 v2 t t'∧m t'<m t∧J t'):zg (KN w0) Tryz.prog F R qC (lp Tryz.prog 83 0):=by
 refine zP (T:=w_lp_l_T) (fun t=>FL [pS (lfO st),pB (bdO st),pI v1,pS (lfO v2),pB (bdO v2),pS (lfO t.s),pB (bdO t.s)] [pG cPl ([]:List Pl),pG cPl t.o]) J m { s:=v2,o:=([]:List Pl) } zW hJ (zipA.imp ⟨z_c yy,z_c yy,z_c yy,z_c (fun β v W h=>(zc u2 β v W).1 h),z_c yy,z_c yy,z_c (fun β v W h=>(zc u2 β v W).1 h),z_b ⟨fun β v W h=>(zc u3 β v W).1 h,fun β v W h=>(zc u4 β v W).1 h,trivial⟩,z_gq ug0 rfl,trivial⟩) rfl fun t ht=>?_
 rcases rounds t ht with hz_ | ⟨t',hz_,hm_,hj_⟩
 ·refine .inl ?_
  rcases hz_ with ⟨v501,v502,v504,v505,e501,e502,e504,e505,h503,h506,q0,q1,_⟩ | ⟨v501,v502,e501,e502,h503,q0,q1,_⟩
  ·exact zky  st v1 v2  t.s t.o v501 v502 v504 v505 e501 e502 e504 e505 h503 h506 s2 o2 F u2 u3 u4 u5 u6 ug0 ug1 q0 q1 R hR
  ·exact zkz  st v1 v2  t.s t.o v501 v502 e501 e502 h503 s2 o2 F u2 u3 u4 u5 u6 ug0 ug1 q0 q1 R hR
 ·refine .inr ⟨t',hm_,hj_,?_⟩
  rcases hz_ with ⟨v501,v502,v504,v505,v507,v508,v509,e501,e502,e504,e505,e507,e508,e509,h503,h506,s510,q0,q1,_⟩
  ·exact zkx  st v1 v2  t.s t.o v501 v502 v504 v505 v507 v508 v509 e501 e502 e504 e505 e507 e508 e509 h503 h506 s510 t'.s t'.o q0 q1 R hR
theorem zfe {w0:World} (st:St) (v1:Int) (v2:St) (s2:St) (o2:(List Pl)) {F:Fact} (u2:F.c 2=pI v1) (u3:F.c 3=pS (lfO v2)) (u4:F.c 4=pB (bdO v2)) (u5:F.c 5=pS (lfO s2)) (u6:F.c 6=pB (bdO s2)) (ug0:F.g 0=pG cPl ([]:List Pl)) (ug1:F.g 1=pG cPl o2) (R:Frm) (hR:R.pm=⟨ntOf Tryz.prog 83,[900],[]⟩) (hn0:0≤v1) (hb:v1≤1000000) (hO:s2=(rdN rdP v1.toNat [] v2).2∧o2=(rdN rdP v1.toNat [] v2).1):zg (KN w0) Tryz.prog F R qC (lp Tryz.prog 83 0):=by
 refine zg3  st v1 v2  s2 o2 u2 u3 u4 u5 u6 ug0 ug1 R hR (fun ⟨s,o⟩=>o.length≤v1.toNat∧rdN rdP v1.toNat [] v2=rdN rdP (v1.toNat - o.length) o s) (fun ⟨s,o⟩=>v1.toNat - o.length) ⟨Nat.zero_le _,rfl⟩ fun t hJ=>?_
 obtain ⟨s,o⟩:=t
 dsimp only at hJ
 obtain ⟨hle,hJ⟩:=hJ
 obtain ⟨v501,e501⟩:∃v,((o.length:Int))=v:=⟨_,rfl⟩
 obtain ⟨v502,e502⟩:∃v,(decide (v501<v1))=v:=⟨_,rfl⟩
 cases h503:v502 with
 | true =>
  obtain ⟨v504,e504⟩:∃v,(bdO s)=v:=⟨_,rfl⟩
  obtain ⟨v505,e505⟩:∃v,(!v504)=v:=⟨_,rfl⟩
  cases h506:v505 with
  | true =>
   obtain ⟨v507,e507⟩:∃v,((rdP s).1)=v:=⟨_,rfl⟩
   obtain ⟨v508,e508⟩:∃v,((rdP s).2)=v:=⟨_,rfl⟩
   obtain ⟨v509,e509⟩:∃v,(o++[v507])=v:=⟨_,rfl⟩
   have s510:(o.length+1)*4≤1099511627776:=by (have d:=of_decide_eq_true (e502.trans h503);omega)
   refine .inr ⟨⟨v508,v509⟩,⟨v501,v502,v504,v505,v507,v508,v509,e501,e502,e504,e505,e507,e508,e509,h503,h506,s510,rfl,rfl,trivial⟩,?_,?_⟩
   all_goals (have d:=of_decide_eq_true (e502.trans h503);have hz:bdO s=false:=(by rw [e504];cases v504<;>simp_all);obtain ⟨m,hm⟩:=zN.1 hz;have hl:v509.length=o.length+1:=(by rw [← e509,List.length_append];rfl))
   ·show v1.toNat - v509.length<v1.toNat - o.length
    omega
   ·refine ⟨by show v509.length≤_;omega,?_⟩
    show _=rdN rdP (v1.toNat - v509.length) v509 v508
    rw [hJ,show v1.toNat - o.length=(v1.toNat - v509.length)+1 by omega,hm,rdN,← hm,e507,e508,e509]
  | false =>
   refine .inl (Or.inl (⟨v501,v502,v504,v505,e501,e502,e504,e505,h503,h506,?_,?_,trivial⟩))
   all_goals (have hz:s=none:=qe.1 (by rw [e504];cases v504<;>simp_all);rw [hJ,hz,qY] at hO)
   ·rw [hz,hO.1]
   ·rw [hO.2]
 | false =>
  refine .inl (Or.inr (⟨v501,v502,e501,e502,h503,?_,?_,trivial⟩))
  all_goals (have d:=of_decide_eq_false (e502.trans h503);rw [hJ,show v1.toNat - o.length=0 by omega,rdN] at hO)
  ·rw [hO.1]
  ·rw [hO.2]
theorem znL {w0:World} (st:St) (v1:Int) (v2:St) (s2:St) (o2:(List Pl)) (v3:Bool) (e1:((rdC st).1)=v1) (e2:((rdC st).2)=v2) (e3:(bdO s2)=v3) (h4:v3=true) (L_w_lp_l:∀R:Frm,R.pm=⟨ntOf Tryz.prog 83,[900],[]⟩→zg (KN w0) Tryz.prog (FL [pS (lfO st),pB (bdO st),pI v1,pS (lfO v2),pB (bdO v2),pS (lfO s2),pB (bdO s2),pB v3,pLs cPl o2] [pG cPl ([]:List Pl),pG cPl o2]) R qC (lp Tryz.prog 83 0)):BFun false (KN w0) Tryz.prog 83 [.o (.c (.p 0 0)),.o (.c (.m 84 0 0))] [(62,[.d (pS (lfO st)),.d (pB (bdO st))])] (.o (.c (.d (pV (.slice none 0 0))))) [(62,[.d (pS (lfO s2)),.d (pB (bdO s2))])] :=
 con_b (pan:=false) (z8 (F:=FL [pS (lfO st),pB (bdO st),pI v1,pS (lfO v2),pB (bdO v2),pS (lfO s2),pB (bdO s2),pB v3,pLs cPl o2] [pG cPl ([]:List Pl),pG cPl o2]) (C:=[(1000002,.call ⟨81,[.o (.c (.p 900 0))],[.bx 900 62 [.h 0,.h 1]],yh 2,[.bx 900 62 [.h 3,.h 4]]⟩),
  (1001006,.call ⟨23,[.o (.c (.p 900 0))],[.bx 900 62 [.h 5,.h 6]],yh 7,[.bx 900 62 [.h 5,.h 6]]⟩),
  (10007,.fb 7 true)]) (k:=⟨83,[.o (.c (.p 900 0)),.o (.c (.m 84 900 0))],[.bx 900 62 [.h 0,.h 1]],.o (.c (.k (.slice none 0 0))),[.bx 900 62 [.h 5,.h 6]]⟩) ⟨[qC],[⟨2,[.sl 6 (.o (.c (.k (.slice none 0 0)))),.gn 901],[.sl 6 (.o (.c (.gr 901))),.gl 901 69 4 0],[]⟩,⟨5,.gl 901 69 4 1::[6].map (fun s=>.sl s (.o (.c (.gr 901)))),[6].map (fun s=>.sl s (yh 8)),[901]⟩],0⟩ [901] 0 (zf ⟨zb,zb,zb,zb,zb,zb,zb,zb,(zt zx),trivial⟩ ⟨(zm zx),(zm zx),trivial⟩) ⟨b_con (pan:=false) (zaf st v1 v2 e1 e2),
  b_con (pan:=false) (w_bad s2 v3 e3),
  e_fbv h4,
  trivial⟩ mixed ⟨zan (c:=cPl) rfl,zbi (c:=cPl) (fun _=>rfl) (by decide) zx rfl rfl,trivial⟩ (fun R hR p hp s hs=>by
 have hl:zH (qg Tryz.prog 83)=[(3,lp Tryz.prog 83 0)]:=by kernel_rfl
 rw [hl] at hp
 simp only [List.mem_cons,List.not_mem_nil,or_false] at hp
 rcases hp with rfl
 ·have e:s=qC:=(Option.some.inj hs).symm
  subst e;exact L_w_lp_l R hR) (by kernel_rfl))
theorem znM {w0:World} (st:St) (v1:Int) (v2:St) (s2:St) (o2:(List Pl)) (v3:Bool) (e1:((rdC st).1)=v1) (e2:((rdC st).2)=v2) (e3:(bdO s2)=v3) (h4:v3=false) (L_w_lp_l:∀R:Frm,R.pm=⟨ntOf Tryz.prog 83,[900],[]⟩→zg (KN w0) Tryz.prog (FL [pS (lfO st),pB (bdO st),pI v1,pS (lfO v2),pB (bdO v2),pS (lfO s2),pB (bdO s2),pB v3,pLs cPl o2] [pG cPl ([]:List Pl),pG cPl o2]) R qC (lp Tryz.prog 83 0)):BFun false (KN w0) Tryz.prog 83 [.o (.c (.p 0 0)),.o (.c (.m 84 0 0))] [(62,[.d (pS (lfO st)),.d (pB (bdO st))])] (.o (.c (.d (pLs cPl o2)))) [(62,[.d (pS (lfO s2)),.d (pB (bdO s2))])] :=
 con_b (pan:=false) (z8 (F:=FL [pS (lfO st),pB (bdO st),pI v1,pS (lfO v2),pB (bdO v2),pS (lfO s2),pB (bdO s2),pB v3,pLs cPl o2] [pG cPl ([]:List Pl),pG cPl o2]) (C:=[(1000002,.call ⟨81,[.o (.c (.p 900 0))],[.bx 900 62 [.h 0,.h 1]],yh 2,[.bx 900 62 [.h 3,.h 4]]⟩),
  (1001006,.call ⟨23,[.o (.c (.p 900 0))],[.bx 900 62 [.h 5,.h 6]],yh 7,[.bx 900 62 [.h 5,.h 6]]⟩),
  (10007,.fb 7 false)]) (k:=⟨83,[.o (.c (.p 900 0)),.o (.c (.m 84 900 0))],[.bx 900 62 [.h 0,.h 1]],yh 8,[.bx 900 62 [.h 5,.h 6]]⟩) ⟨[qC],[⟨2,[.sl 6 (.o (.c (.k (.slice none 0 0)))),.gn 901],[.sl 6 (.o (.c (.gr 901))),.gl 901 69 4 0],[]⟩,⟨5,.gl 901 69 4 1::[6].map (fun s=>.sl s (.o (.c (.gr 901)))),[6].map (fun s=>.sl s (yh 8)),[901]⟩],0⟩ [901] 0 (zf ⟨zb,zb,zb,zb,zb,zb,zb,zb,(zt zx),trivial⟩ ⟨(zm zx),(zm zx),trivial⟩) ⟨b_con (pan:=false) (zaf st v1 v2 e1 e2),
  b_con (pan:=false) (w_bad s2 v3 e3),
  e_fbv h4,
  trivial⟩ mixed ⟨zan (c:=cPl) rfl,zbi (c:=cPl) (fun _=>rfl) (by decide) zx rfl rfl,trivial⟩ (fun R hR p hp s hs=>by
 have hl:zH (qg Tryz.prog 83)=[(3,lp Tryz.prog 83 0)]:=by kernel_rfl
 rw [hl] at hp
 simp only [List.mem_cons,List.not_mem_nil,or_false] at hp
 rcases hp with rfl
 ·have e:s=qC:=(Option.some.inj hs).symm
  subst e;exact L_w_lp_l R hR) (by kernel_rfl))
theorem w_lp {w0:World} (st:St) (r:List Pl) (st2:St) (hr:(rdL rdP st).1=r) (hs:(rdL rdP st).2=st2) (hle:leftN (rdC st).2≤1000000):BFun false (KN w0) Tryz.prog 83 [.o (.c (.p 0 0)),.o (.c (.m 84 0 0))] [(62,[.d (pS (lfO st)),.d (pB (bdO st))])] (.o (.c (.d (pLs cPl r)))) [(62,[.d (pS (lfO st2)),.d (pB (bdO st2))])]:=by
 obtain ⟨v1,e1⟩:∃v,((rdC st).1)=v:=⟨_,rfl⟩
 obtain ⟨v2,e2⟩:∃v,((rdC st).2)=v:=⟨_,rfl⟩
 obtain ⟨s2,o2,hO_w_lp_l⟩:∃(s2:St) (o2:(List Pl)),s2=(rdN rdP v1.toNat [] v2).2∧o2=(rdN rdP v1.toNat [] v2).1:=⟨_,_,rfl,rfl⟩
 obtain ⟨v3,e3⟩:∃v,(bdO s2)=v:=⟨_,rfl⟩
 cases h4:v3 with
 | true =>
  have r0:r=[]:=by
   have hb:s2=none:=qe.1 (e3.trans h4)
   have hL:rdL rdP st=([],s2):=by
    unfold rdL
    rw [e1,e2,← hO_w_lp_l.1,hb]
   first | rw [← hr,hL] | rw [← hs,hL]
  have r1:st2=s2:=by
   have hb:s2=none:=qe.1 (e3.trans h4)
   have hL:rdL rdP st=([],s2):=by
    unfold rdL
    rw [e1,e2,← hO_w_lp_l.1,hb]
   first | rw [← hr,hL] | rw [← hs,hL]
  rw [r0,r1];exact BFun.imp (znL st v1 v2 s2 o2 v3 e1 e2 e3 h4 (fun R hR=>zfe st v1 v2  s2 o2 rfl rfl rfl rfl rfl rfl rfl R hR (by rw [← e1];exact q8 st) (by have h0:=zdw st;have h1:=hle;rw [← e1];have h2:=q8 st;omega) hO_w_lp_l)) (fun _ _ _ _ h=>zjJ h) (fun _ _ _ h=>h)
 | false =>
  have r0:r=o2:=by
   obtain ⟨m,hm⟩:=zN.1 (e3.trans h4)
   have hL:rdL rdP st=(o2,s2):=by
    unfold rdL
    rw [e1,e2,← hO_w_lp_l.1,← hO_w_lp_l.2,hm]
   first | rw [← hr,hL] | rw [← hs,hL]
  have r1:st2=s2:=by
   obtain ⟨m,hm⟩:=zN.1 (e3.trans h4)
   have hL:rdL rdP st=(o2,s2):=by
    unfold rdL
    rw [e1,e2,← hO_w_lp_l.1,← hO_w_lp_l.2,hm]
   first | rw [← hr,hL] | rw [← hs,hL]
  rw [r0,r1];exact znM st v1 v2 s2 o2 v3 e1 e2 e3 h4 (fun R hR=>zfe st v1 v2  s2 o2 rfl rfl rfl rfl rfl rfl rfl R hR (by rw [← e1];exact q8 st) (by have h0:=zdw st;have h1:=hle;rw [← e1];have h2:=q8 st;omega) hO_w_lp_l)
theorem zg9 {w0:World} (st:St) (v1:(List Int)) (v2:St) (e1:((rdL rdI st).1)=v1) (e2:((rdL rdI st).2)=v2) (s3:leftN (rdC st).2≤1000000):BFun false (KN w0) Tryz.prog 35 [.o (.c (.p 0 0))] [(62,[.d (pS (lfO st)),.d (pB (bdO st))])] (.o (.c (.d (pLs cI v1)))) [(62,[.d (pS (lfO v2)),.d (pB (bdO v2))])] :=
 con_b (pan:=false) (zl (F:=FL [pS (lfO st),pB (bdO st),pLs cI v1,pS (lfO v2),pB (bdO v2)] []) (C:=[(1000004,.call ⟨66,[.o (.c (.p 900 0)),.o (.c (.m 36 900 0))],[.bx 900 62 [.h 0,.h 1]],yh 2,[.bx 900 62 [.h 3,.h 4]]⟩)]) (k:=⟨35,[.o (.c (.p 900 0))],[.bx 900 62 [.h 0,.h 1]],yh 2,[.bx 900 62 [.h 3,.h 4]]⟩) 0 (zf ⟨zb,zb,(zt zo),zb,zb,trivial⟩) ⟨b_con (pan:=false) (w_li st v1 v2 e1 e2 s3),
  trivial⟩ mixed (by kernel_rfl))
theorem zhW {w0:World} (st:St) (r:List Int) (st2:St) (hr:(rdL rdI st).1=r) (hs:(rdL rdI st).2=st2) (hle:leftN (rdC st).2≤1000000):BFun false (KN w0) Tryz.prog 35 [.o (.c (.p 0 0))] [(62,[.d (pS (lfO st)),.d (pB (bdO st))])] (.o (.c (.d (pLs cI r)))) [(62,[.d (pS (lfO st2)),.d (pB (bdO st2))])]:=by
 obtain ⟨v1,e1⟩:∃v,((rdL rdI st).1)=v:=⟨_,rfl⟩
 obtain ⟨v2,e2⟩:∃v,((rdL rdI st).2)=v:=⟨_,rfl⟩
 have s3:leftN (rdC st).2≤1000000:=by exact hle
 have r0:r=v1:=by
  first | rw [← hr,e1] | rw [← hs,e2]
 have r1:st2=v2:=by
  first | rw [← hr,e1] | rw [← hs,e2]
 rw [r0,r1];exact zg9 st v1 v2 e1 e2 s3
theorem zg7 {w0:World} (st:St) (v1:(List Pl)) (v2:St) (e1:((rdL rdP st).1)=v1) (e2:((rdL rdP st).2)=v2) (s3:leftN (rdC st).2≤1000000):BFun false (KN w0) Tryz.prog 57 [.o (.c (.p 0 0))] [(62,[.d (pS (lfO st)),.d (pB (bdO st))])] (.o (.c (.d (pLs cPl v1)))) [(62,[.d (pS (lfO v2)),.d (pB (bdO v2))])] :=
 con_b (pan:=false) (zl (F:=FL [pS (lfO st),pB (bdO st),pLs cPl v1,pS (lfO v2),pB (bdO v2)] []) (C:=[(1000004,.call ⟨83,[.o (.c (.p 900 0)),.o (.c (.m 84 900 0))],[.bx 900 62 [.h 0,.h 1]],yh 2,[.bx 900 62 [.h 3,.h 4]]⟩)]) (k:=⟨57,[.o (.c (.p 900 0))],[.bx 900 62 [.h 0,.h 1]],yh 2,[.bx 900 62 [.h 3,.h 4]]⟩) 0 (zf ⟨zb,zb,(zt zx),zb,zb,trivial⟩) ⟨b_con (pan:=false) (w_lp st v1 v2 e1 e2 s3),
  trivial⟩ mixed (by kernel_rfl))
theorem zl9 {w0:World} (st:St) (r:List Pl) (st2:St) (hr:(rdL rdP st).1=r) (hs:(rdL rdP st).2=st2) (hle:leftN (rdC st).2≤1000000):BFun false (KN w0) Tryz.prog 57 [.o (.c (.p 0 0))] [(62,[.d (pS (lfO st)),.d (pB (bdO st))])] (.o (.c (.d (pLs cPl r)))) [(62,[.d (pS (lfO st2)),.d (pB (bdO st2))])]:=by
 obtain ⟨v1,e1⟩:∃v,((rdL rdP st).1)=v:=⟨_,rfl⟩
 obtain ⟨v2,e2⟩:∃v,((rdL rdP st).2)=v:=⟨_,rfl⟩
 have s3:leftN (rdC st).2≤1000000:=by exact hle
 have r0:r=v1:=by
  first | rw [← hr,e1] | rw [← hs,e2]
 have r1:st2=v2:=by
  first | rw [← hr,e1] | rw [← hs,e2]
 rw [r0,r1];exact zg7 st v1 v2 e1 e2 s3
end Go.Proofs.YtjcegdldgjphiaaGreatDoor
namespace Go.Proofs.YtjcegdldgjphiaaGreatDoor
open Go.RowKit Go.Shelf
def PImps:List Pred→List Pred→Prop
 | [],[]=>True
 | p::ps,q::qs=>(∀v W D,p v W D→q v W D)∧PImps ps qs
 | _,_=>False
theorem pimps {p q:Pred} {ps qs:List Pred} (h:∀v W D,p v W D→q v W D) (t:PImps ps qs):PImps (p::ps) (q::qs):=⟨h,t⟩
theorem zcJ:PImps [] []:=trivial
section
variable {K:Kit} {P:Program} {F:Fact} {W:World} {D:Dat}
theorem zhH:∀{ps qs:List Pred} {vs:List Value},PImps ps qs→okl ps vs W D→okl qs vs W D
 | [],[],[],_,_=>trivial
 | _::_,_::_,_::_,h,h2=>⟨h.1 _ _ _ h2.1,zhH h.2 h2.2⟩
 | [],_::_,_,h,_=>h.elim
 | _::_,[],_,h,_=>h.elim
 | [],[],_::_,_,h=>h.elim
 | _::_,_::_,[],_,h=>h.elim
theorem zhI:∀{ps:List Pred} {vs:List Value},okl ps vs W D→vs.length=ps.length
 | [],[],_=>rfl
 | _::_,_::_,h=>congrArg (·+1) (zhI h.2)
 | [],_::_,h=>h.elim
 | _::_,[],h=>h.elim
theorem e_dat {α:Type} {c:α→List Pred} {E:TypeId} {len n:Nat} {ls:List Lf} {l:List α} {ps qs:List Pred} (hn:F.c n=pLs c l) (hp:ls.map (Lf.pr F)=ps) (hlow:ls.all (Lf.low [])=true) (hqs:l.flatMap c=qs) (hq:PImps ps qs) (hl:l.length=len):(Ent.dat E len ls n).sound K P F:=by
 intro β W q vs hv hh hD
 rw [hn]
 have h1:=(za4 hlow).1 hv
 rw [hp] at h1
 have h2:=zhH hq h1
 have h3:=zhI h2
 refine .inr ⟨q,0,len,E,vs.toArray,(0,0),by rw [hl],hD,hh,?_,Nat.le_of_eq hl⟩
 show okl _ ((vs.toArray.toList.drop 0).take _) W β.D
 rw [hqs,List.drop_zero,List.take_of_length_le (by simp;omega)]
 exact h2
end
theorem nz0:nz 0=(false,[]):=by
 show (decide ((0:Int)<0),digs 0)=_
 rw [zw];rfl
theorem zn_b {v:Value} {W:World} {D:Dat} (h:pV (.bool false) v W D):pB (rq none).1.1 v W D∧pB (rq none).2.1 v W D:=by
 show pB (nz 0).1 v W D∧pB (nz 0).1 v W D
 rw [nz0];exact ⟨h,h⟩
theorem zn_d {v:Value} {W:World} {D:Dat} (h:pV (.slice none 0 0) v W D):pD (rq none).1.2 v W D∧pD (rq none).2.2 v W D:=by
 show pD (nz 0).2 v W D∧pD (nz 0).2 v W D
 rw [nz0];exact ⟨nil_D h,nil_D h⟩
end Go.Proofs.YtjcegdldgjphiaaGreatDoor
namespace Go.Proofs.YtjcegdldgjphiaaGreatDoor
open Go.RowKit Go.Shelf
theorem zkJ {qs:List Nat} {v:Value} {W:World} {D:Dat} (h:(ASh.o (.g [.d (pV (.bool false)),.d (pV (.slice none 0 0)),.d (pV (.bool false)),.d (pV (.slice none 0 0))])).ok qs v W D):(ASh.o (.g [.d (pB (rq none).1.1),.d (pD (rq none).1.2),.d (pB (rq none).2.1),.d (pD (rq none).2.2)])).ok qs v W D:=by
 obtain ⟨vs,e,h⟩:=h
 refine ⟨vs,e,?_⟩
 revert h
 generalize vs.toList=l
 intro h
 match l,h with
 | [_,_,_,_],h=>exact ⟨(zn_b (W:=W) (D:=D) h.1).1,(zn_d (W:=W) (D:=D) h.2.1).1,(zn_b (W:=W) (D:=D) h.2.2.1).2,(zn_d (W:=W) (D:=D) h.2.2.2.1).2,trivial⟩
theorem zfr {w0:World} (st:St) (hM:LM w0) (hTS:LS w0) (v1:(List UInt8)) (v2:St) (v3:RR) (v4:Bool) (v6:Bool) (e1:((rdT st).1)=v1) (e2:((rdT st).2)=v2) (e3:(parR v1)=v3) (e4:(okP v1)=v4) (e6:(bdO v2)=v6) (s5:(v1:List UInt8).length<4294967281) (h7:v6=true):BFun false (KN w0) Tryz.prog 60 [.o (.c (.p 0 0))] [(62,[.d (pS (lfO st)),.d (pB (bdO st))])] (.o (.g [.d (pV (.bool false)),.d (pV (.slice none 0 0)),.d (pV (.bool false)),.d (pV (.slice none 0 0))])) [(62,[.d (pV (.string ⟨#[]⟩)),.d (pV (.bool true))])] :=
 con_b (pan:=false) (zl (F:=FL [pS (lfO st),pB (bdO st),pS v1,pS (lfO v2),pB (bdO v2),pB v3.1.1,pD v3.1.2,pB v3.2.1,pD v3.2.2,pB v4,pB v6] []) (C:=[(1000002,.call ⟨51,[.o (.c (.p 900 0))],[.bx 900 62 [.h 0,.h 1]],yh 2,[.bx 900 62 [.h 3,.h 4]]⟩),
  (1000003,.call ⟨86,[yh 2],[],.t [.g [.h 5,.h 6,.h 7,.h 8],.c (.h 9)],[]⟩),
  (1000011,.call ⟨23,[.o (.c (.p 900 0))],[.bx 900 62 [.h 3,.h 4]],yh 10,[.bx 900 62 [.h 3,.h 4]]⟩),
  (10010,.fb 10 true),
  (1000017,.call ⟨67,[.o (.c (.p 900 0))],[.bx 900 62 [.h 3,.h 4]],.t [],[.bx 900 62 [.k (.string ⟨#[]⟩),.k (.bool true)]]⟩)]) (k:=⟨60,[.o (.c (.p 900 0))],[.bx 900 62 [.h 0,.h 1]],.o (.g [.k (.bool false),.k (.slice none 0 0),.k (.bool false),.k (.slice none 0 0)]),[.bx 900 62 [.k (.string ⟨#[]⟩),.k (.bool true)]]⟩) 0 (zf ⟨zb,zb,zb,zb,zb,zb,zj,zb,zj,zb,zb,trivial⟩) ⟨b_con (pan:=false) (zcm st v1 v2 e1 e2),
  ze (zch hM hTS v1 v3 v4 e3 e4 s5),
  b_con (pan:=false) (w_bad v2 v6 e6),
  e_fbv h7,
  b_con (pan:=false) (zc2 v2),
  trivial⟩ mixed (by kernel_rfl))
theorem zfs {w0:World} (st:St) (hM:LM w0) (hTS:LS w0) (v1:(List UInt8)) (v2:St) (v3:RR) (v4:Bool) (v6:Bool) (v8:Bool) (e1:((rdT st).1)=v1) (e2:((rdT st).2)=v2) (e3:(parR v1)=v3) (e4:(okP v1)=v4) (e6:(bdO v2)=v6) (e8:(!v4)=v8) (s5:(v1:List UInt8).length<4294967281) (h7:v6=false) (h9:v8=true):BFun false (KN w0) Tryz.prog 60 [.o (.c (.p 0 0))] [(62,[.d (pS (lfO st)),.d (pB (bdO st))])] (.o (.g [.d (pV (.bool false)),.d (pV (.slice none 0 0)),.d (pV (.bool false)),.d (pV (.slice none 0 0))])) [(62,[.d (pV (.string ⟨#[]⟩)),.d (pV (.bool true))])] :=
 con_b (pan:=false) (zl (F:=FL [pS (lfO st),pB (bdO st),pS v1,pS (lfO v2),pB (bdO v2),pB v3.1.1,pD v3.1.2,pB v3.2.1,pD v3.2.2,pB v4,pB v6,pB v8] []) (C:=[(1000002,.call ⟨51,[.o (.c (.p 900 0))],[.bx 900 62 [.h 0,.h 1]],yh 2,[.bx 900 62 [.h 3,.h 4]]⟩),
  (1000003,.call ⟨86,[yh 2],[],.t [.g [.h 5,.h 6,.h 7,.h 8],.c (.h 9)],[]⟩),
  (1000011,.call ⟨23,[.o (.c (.p 900 0))],[.bx 900 62 [.h 3,.h 4]],yh 10,[.bx 900 62 [.h 3,.h 4]]⟩),
  (10010,.fb 10 false),
  (1000014,.un .not (yh 9) (yh 11)),
  (10011,.fb 11 true),
  (1000017,.call ⟨67,[.o (.c (.p 900 0))],[.bx 900 62 [.h 3,.h 4]],.t [],[.bx 900 62 [.k (.string ⟨#[]⟩),.k (.bool true)]]⟩)]) (k:=⟨60,[.o (.c (.p 900 0))],[.bx 900 62 [.h 0,.h 1]],.o (.g [.k (.bool false),.k (.slice none 0 0),.k (.bool false),.k (.slice none 0 0)]),[.bx 900 62 [.k (.string ⟨#[]⟩),.k (.bool true)]]⟩) 0 (zf ⟨zb,zb,zb,zb,zb,zb,zj,zb,zj,zb,zb,zb,trivial⟩) ⟨b_con (pan:=false) (zcm st v1 v2 e1 e2),
  ze (zch hM hTS v1 v3 v4 e3 e4 s5),
  b_con (pan:=false) (w_bad v2 v6 e6),
  e_fbv h7,
  e_un (za rfl) (za rfl) (fun W=>by rw [← e8];exact r_not W),
  e_fbv h9,
  b_con (pan:=false) (zc2 v2),
  trivial⟩ mixed (by kernel_rfl))
theorem zft {w0:World} (st:St) (hM:LM w0) (hTS:LS w0) (v1:(List UInt8)) (v2:St) (v3:RR) (v4:Bool) (v6:Bool) (v8:Bool) (e1:((rdT st).1)=v1) (e2:((rdT st).2)=v2) (e3:(parR v1)=v3) (e4:(okP v1)=v4) (e6:(bdO v2)=v6) (e8:(!v4)=v8) (s5:(v1:List UInt8).length<4294967281) (h7:v6=false) (h9:v8=false):BFun false (KN w0) Tryz.prog 60 [.o (.c (.p 0 0))] [(62,[.d (pS (lfO st)),.d (pB (bdO st))])] (.o (.g [.d (pB v3.1.1),.d (pD v3.1.2),.d (pB v3.2.1),.d (pD v3.2.2)])) [(62,[.d (pS (lfO v2)),.d (pB (bdO v2))])] :=
 con_b (pan:=false) (zl (F:=FL [pS (lfO st),pB (bdO st),pS v1,pS (lfO v2),pB (bdO v2),pB v3.1.1,pD v3.1.2,pB v3.2.1,pD v3.2.2,pB v4,pB v6,pB v8] []) (C:=[(1000002,.call ⟨51,[.o (.c (.p 900 0))],[.bx 900 62 [.h 0,.h 1]],yh 2,[.bx 900 62 [.h 3,.h 4]]⟩),
  (1000003,.call ⟨86,[yh 2],[],.t [.g [.h 5,.h 6,.h 7,.h 8],.c (.h 9)],[]⟩),
  (1000011,.call ⟨23,[.o (.c (.p 900 0))],[.bx 900 62 [.h 3,.h 4]],yh 10,[.bx 900 62 [.h 3,.h 4]]⟩),
  (10010,.fb 10 false),
  (1000014,.un .not (yh 9) (yh 11)),
  (10011,.fb 11 false)]) (k:=⟨60,[.o (.c (.p 900 0))],[.bx 900 62 [.h 0,.h 1]],.o (.g [.h 5,.h 6,.h 7,.h 8]),[.bx 900 62 [.h 3,.h 4]]⟩) 0 (zf ⟨zb,zb,zb,zb,zb,zb,zj,zb,zj,zb,zb,zb,trivial⟩) ⟨b_con (pan:=false) (zcm st v1 v2 e1 e2),
  ze (zch hM hTS v1 v3 v4 e3 e4 s5),
  b_con (pan:=false) (w_bad v2 v6 e6),
  e_fbv h7,
  e_un (za rfl) (za rfl) (fun W=>by rw [← e8];exact r_not W),
  e_fbv h9,
  trivial⟩ mixed (by kernel_rfl))
theorem zkD {w0:World} (hM:LM w0) (hTS:LS w0) (st:St) (r:RR) (st2:St) (hr:(rdR st).1=r) (hs:(rdR st).2=st2) (hle:(rdT st).1.length<4294967281):BFun false (KN w0) Tryz.prog 60 [.o (.c (.p 0 0))] [(62,[.d (pS (lfO st)),.d (pB (bdO st))])] (.o (.g [.d (pB r.1.1),.d (pD r.1.2),.d (pB r.2.1),.d (pD r.2.2)])) [(62,[.d (pS (lfO st2)),.d (pB (bdO st2))])]:=by
 obtain ⟨v1,e1⟩:∃v,((rdT st).1)=v:=⟨_,rfl⟩
 obtain ⟨v2,e2⟩:∃v,((rdT st).2)=v:=⟨_,rfl⟩
 obtain ⟨v3,e3⟩:∃v,(parR v1)=v:=⟨_,rfl⟩
 obtain ⟨v4,e4⟩:∃v,(okP v1)=v:=⟨_,rfl⟩
 have s5:(v1:List UInt8).length<4294967281:=by rw [← e1];exact hle
 obtain ⟨v6,e6⟩:∃v,(bdO v2)=v:=⟨_,rfl⟩
 cases h7:v6 with
 | true =>
  have r0:r=rq none:=by
   have hL:rdR st=(rq none,none):=by
    unfold rdR
    rw [e2,qe.1 (e6.trans h7)]
   first | rw [← hr,hL] | rw [← hs,hL]
  have r1:st2=none:=by
   have hL:rdR st=(rq none,none):=by
    unfold rdR
    rw [e2,qe.1 (e6.trans h7)]
   first | rw [← hr,hL] | rw [← hs,hL]
  rw [r0,r1];exact BFun.imp (zfr st hM hTS v1 v2 v3 v4 v6 e1 e2 e3 e4 e6 s5 h7) (fun _ _ _ _ h=>zkJ h) (fun _ _ _ h=>h)
 | false =>
  obtain ⟨v8,e8⟩:∃v,(!v4)=v:=⟨_,rfl⟩
  cases h9:v8 with
  | true =>
   have r0:r=rq none:=by
    obtain ⟨m,hm⟩:=zN.1 (e6.trans h7)
    have hL:rdR st=(rq none,none):=by
     unfold rdR
     rw [e2,hm]
     simp only []
     rw [e1,e4,if_neg (by cases v4<;>simp_all)]
    first | rw [← hr,hL] | rw [← hs,hL]
   have r1:st2=none:=by
    obtain ⟨m,hm⟩:=zN.1 (e6.trans h7)
    have hL:rdR st=(rq none,none):=by
     unfold rdR
     rw [e2,hm]
     simp only []
     rw [e1,e4,if_neg (by cases v4<;>simp_all)]
    first | rw [← hr,hL] | rw [← hs,hL]
   rw [r0,r1];exact BFun.imp (zfs st hM hTS v1 v2 v3 v4 v6 v8 e1 e2 e3 e4 e6 e8 s5 h7 h9) (fun _ _ _ _ h=>zkJ h) (fun _ _ _ h=>h)
  | false =>
   have r0:r=v3:=by
    obtain ⟨m,hm⟩:=zN.1 (e6.trans h7)
    have hL:rdR st=(v3,v2):=by
     unfold rdR
     rw [e2,hm]
     simp only []
     rw [e1,e4,if_pos (by cases v4<;>simp_all),e3]
    first | rw [← hr,hL] | rw [← hs,hL]
   have r1:st2=v2:=by
    obtain ⟨m,hm⟩:=zN.1 (e6.trans h7)
    have hL:rdR st=(v3,v2):=by
     unfold rdR
     rw [e2,hm]
     simp only []
     rw [e1,e4,if_pos (by cases v4<;>simp_all),e3]
    first | rw [← hr,hL] | rw [← hs,hL]
   rw [r0,r1];exact zft st hM hTS v1 v2 v3 v4 v6 v8 e1 e2 e3 e4 e6 e8 s5 h7 h9
end Go.Proofs.YtjcegdldgjphiaaGreatDoor
namespace Go.Proofs.YtjcegdldgjphiaaGreatDoor
open Go.RowKit Go.Shelf
end Go.Proofs.YtjcegdldgjphiaaGreatDoor
namespace Go.Proofs.YtjcegdldgjphiaaGreatDoor
open Go.RowKit Go.Shelf
end Go.Proofs.YtjcegdldgjphiaaGreatDoor
namespace Go.Proofs.YtjcegdldgjphiaaGreatDoor
end Go.Proofs.YtjcegdldgjphiaaGreatDoor
namespace Go.Proofs.YtjcegdldgjphiaaGreatDoor
open Go.RowKit Go.Shelf
structure rfA_T where
 code:Int
 k:Int
structure rfB_T where
 code:Int
 k:Int
end Go.Proofs.YtjcegdldgjphiaaGreatDoor
namespace Go.Proofs.YtjcegdldgjphiaaGreatDoor
open Go.RowKit Go.Shelf
end Go.Proofs.YtjcegdldgjphiaaGreatDoor
namespace Go.Proofs.YtjcegdldgjphiaaGreatDoor
open Go.RowKit Go.Shelf
section
variable {α:Type} {rf:RS→α×RS}
end
structure w_rfints_l_T where
 k:Int
 s:RS
 o:(List Int)
structure w_rfcell_l_T where
 k:Int
 s:RS
 o:(List Pl)
theorem zff {w0:World} (s:List UInt8) (st:St) (h:some s=st):NFun (KN w0) Tryz.prog 18 [.o (.c (pS s))] 62 [pS (lfO st),pB (bdO st)]:=by
 subst h;exact w_new s
end Go.Proofs.YtjcegdldgjphiaaGreatDoor
