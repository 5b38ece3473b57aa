/-
  RatioOrder is proved: whatever the input, the law returns true and each argument reads as it did, where the listed variables read as listed; and the card, which ties it to the program's text.
-/
import Derived.Test.YtccjiodohphgnaaGreatDoorMgAR
import Derived.Test.YtccjiodohphgnaaGreatDoorMgAV
import Derived.Test.YtccjiodohphgnaaGreatDoorCards
import Derived.Test.YtccjiodohphgnaaGreatDoorTie
import Derived.SevenTiedAt
set_option linter.unusedSimpArgs false
set_option linter.unusedVariables false
set_option maxRecDepth 100000
set_option maxHeartbeats 4000000
namespace Go.Proofs.YtccjiodohphgnaaGreatDoor
open Go.RowKit Go.Shelf
theorem zM (l:List Int×List Int×List Int):∃p q z:Rat,madeR l.1=some p∧madeR l.2.1=some q∧madeR l.2.2=some z∧Sz 97 p∧Sz 97 q∧Sz 97 z:=by
 obtain ⟨p,ep,hp⟩:=zdx l.1
 obtain ⟨q,eq,hq⟩:=zdx l.2.1
 obtain ⟨z,ez,hz⟩:=zdx l.2.2
 exact ⟨p,q,z,ep,eq,ez,hp,hq,hz⟩
theorem zkj {w0:World} (l:(List Int×List Int×List Int)) (hM:∀W,Below w0.heap.size w0 W→MaxT W) (hTS:∀W,Below w0.heap.size w0 W→PowT w0.heap.size W∧SynT w0.heap.size W) (v1:Bool) (v2:RR) (v3:RR) (v4:RR) (v5:Int) (v6:RR) (v7:Bool) (v8:RR) (v9:Bool) (v10:RR) (v11:Bool) (v12:RR) (v13:Bool) (v14:RR) (v15:Bool) (v16:Bool) (v18:Bool) (v20:Bool) (v22:Bool) (v24:Bool) (v26:Int) (v27:Bool) (v29:Int) (v30:Int) (v31:Bool) (v33:Int) (v34:Bool) (v36:Int) (v37:Int) (v38:Int) (v39:Bool) (v41:Bool) (v43:Bool) (v44:Bool) (v46:Bool) (v48:Int) (v49:Bool) (v51:Int) (v52:Bool) (v55:Int) (v56:Bool) (e1:(true)=v1) (e2:(rq (madeR l.1))=v2) (e3:(rq (madeR l.2.1))=v3) (e4:(rq (madeR l.2.2))=v4) (e5:(cmpO (qq v2) (qq v3))=v5) (e6:(rq (subR (qq v2) (qq v3)))=v6) (e7:((subR (qq v2) (qq v3)).isSome)=v7) (e8:(rq (addR (qq v2) (qq v4)))=v8) (e9:((addR (qq v2) (qq v4)).isSome)=v9) (e10:(rq (addR (qq v3) (qq v4)))=v10) (e11:((addR (qq v3) (qq v4)).isSome)=v11) (e12:(rq (mulR (qq v2) (qq v4)))=v12) (e13:((mulR (qq v2) (qq v4)).isSome)=v13) (e14:(rq (mulR (qq v3) (qq v4)))=v14) (e15:((mulR (qq v3) (qq v4)).isSome)=v15) (e16:(!v7)=v16) (e18:(!v9)=v18) (e20:(!v11)=v20) (e22:(!v13)=v22) (e24:(!v15)=v24) (e26:(sgX v6.1 v6.2)=v26) (e27:((v26 != v5))=v27) (e29:(cmpO (qq v3) (qq v2))=v29) (e30:(IntKind.i64.wrap (0 - v5))=v30) (e31:((v29 != v30))=v31) (e33:(cmpO (qq v8) (qq v10))=v33) (e34:((v33 != v5))=v34) (e36:(cmpO (qq v12) (qq v14))=v36) (e37:(sgX v4.1 v4.2)=v37) (e38:(IntKind.i64.wrap (v5*v37))=v38) (e39:((v36 != v38))=v39) (e41:((v5 == (0:Int)))=v41) (e43:(decide (v2=v3))=v43) (e44:(!v43)=v44) (e46:(decide (v5≤(0:Int)))=v46) (e48:(cmpO (qq v3) (qq v4))=v48) (e49:(decide (v48≤(0:Int)))=v49) (e51:(cmpO (qq v2) (qq v4))=v51) (e52:(decide (v51 > (0:Int)))=v52) (e55:(cmpO (qq v2) (qq v2))=v55) (e56:((v55 == (0:Int)))=v56) (h17:v16=false) (h19:v18=false) (h21:v20=false) (h23:v22=false) (h25:v24=false) (h28:v27=false) (h32:v31=false) (h35:v34=false) (h40:v39=false) (h42:v41=true) (h45:v44=false) (h47:v46=true) (h50:v49=true) (h53:v52=false) (h54:v1=true):Fun (KN w0) Tryz.prog 5 [.o (.g [pLs cI l.1,pLs cI l.2.1,pLs cI l.2.2])] (.o (.c (pB v56))):=
 zi (zl (F:=FL (pLs cI l.1::pLs cI l.2.1::pLs cI l.2.2::pB v1::pB v2.1.1::pD v2.1.2::pB v2.2.1::pD v2.2.2::pB v3.1.1::pD v3.1.2::pB v3.2.1::pD v3.2.2::pB v4.1.1::pD v4.1.2::pB v4.2.1::pD v4.2.2::pI v5::pB v6.1.1::pD v6.1.2::pB v6.2.1::pD v6.2.2::pB v7::pB v8.1.1::pD v8.1.2::pB v8.2.1::pD v8.2.2::pB v9::pB v10.1.1::pD v10.1.2::pB v10.2.1::pD v10.2.2::pB v11::pB v12.1.1::pD v12.1.2::pB v12.2.1::pD v12.2.2::pB v13::pB v14.1.1::pD v14.1.2::pB v14.2.1::pD v14.2.2::pB v15::pB v16::pB v18::pB v20::pB v22::pB v24::pI v26::pB v27::pI v29::pI v30::pB v31::pI v33::pB v34::pI v36::pI v37::pI v38::pB v39::pB v41::pB v43::pB v44::pB v46::pI v48::pB v49::pI v51::pB v52::pI v55::pB v56::[]) []) (C:=((1000002,.call ⟨10,[],[],.o (.c (.h 3)),[]⟩) ::
  (1000006,.call ⟨12,[.o (.c (.h 0))],[],.o (.g [.h 4,.h 5,.h 6,.h 7]),[]⟩) ::
  (1000009,.call ⟨12,[.o (.c (.h 1))],[],.o (.g [.h 8,.h 9,.h 10,.h 11]),[]⟩) ::
  (1000012,.call ⟨12,[.o (.c (.h 2))],[],.o (.g [.h 12,.h 13,.h 14,.h 15]),[]⟩) ::
  (1000021,.call ⟨22,[.o (.g [.h 4,.h 5,.h 6,.h 7]),.o (.g [.h 8,.h 9,.h 10,.h 11])],[],.o (.c (.h 16)),[]⟩) ::
  (1000025,.call ⟨15,[.o (.g [.h 4,.h 5,.h 6,.h 7]),.o (.g [.h 8,.h 9,.h 10,.h 11])],[],.t [.g [.h 17,.h 18,.h 19,.h 20],.c (.h 21)],[]⟩) ::
  (1000034,.call ⟨13,[.o (.g [.h 4,.h 5,.h 6,.h 7]),.o (.g [.h 12,.h 13,.h 14,.h 15])],[],.t [.g [.h 22,.h 23,.h 24,.h 25],.c (.h 26)],[]⟩) ::
  (1000043,.call ⟨13,[.o (.g [.h 8,.h 9,.h 10,.h 11]),.o (.g [.h 12,.h 13,.h 14,.h 15])],[],.t [.g [.h 27,.h 28,.h 29,.h 30],.c (.h 31)],[]⟩) ::
  (1000052,.call ⟨18,[.o (.g [.h 4,.h 5,.h 6,.h 7]),.o (.g [.h 12,.h 13,.h 14,.h 15])],[],.t [.g [.h 32,.h 33,.h 34,.h 35],.c (.h 36)],[]⟩) ::
  (1000061,.call ⟨18,[.o (.g [.h 8,.h 9,.h 10,.h 11]),.o (.g [.h 12,.h 13,.h 14,.h 15])],[],.t [.g [.h 37,.h 38,.h 39,.h 40],.c (.h 41)],[]⟩) ::
  (1000069,.un .not (LF (.h 21)) (LF (.h 42))) ::
  (10042,.fb 42 false) ::
  (1000072,.un .not (LF (.h 26)) (LF (.h 43))) ::
  (10043,.fb 43 false) ::
  (1000076,.un .not (LF (.h 31)) (LF (.h 44))) ::
  (10044,.fb 44 false) ::
  (1000080,.un .not (LF (.h 36)) (LF (.h 45))) ::
  (10045,.fb 45 false) ::
  (1000084,.un .not (LF (.h 41)) (LF (.h 46))) ::
  (10046,.fb 46 false) ::
  (1000088,.call ⟨26,[.o (.g [.h 17,.h 18,.h 19,.h 20])],[],.o (.c (.h 47)),[]⟩) ::
  (1000090,.bin .neq 3 (LF (.h 47)) (LF (.h 16)) (LF (.h 48))) ::
  (10048,.fb 48 false) ::
  (1000095,.call ⟨22,[.o (.g [.h 8,.h 9,.h 10,.h 11]),.o (.g [.h 4,.h 5,.h 6,.h 7])],[],.o (.c (.h 49)),[]⟩) ::
  (1000097,.un .neg (LF (.h 16)) (LF (.h 50))) ::
  (1000098,.bin .neq 3 (LF (.h 49)) (LF (.h 50)) (LF (.h 51))) ::
  (10051,.fb 51 false) ::
  (1000103,.call ⟨22,[.o (.g [.h 22,.h 23,.h 24,.h 25]),.o (.g [.h 27,.h 28,.h 29,.h 30])],[],.o (.c (.h 52)),[]⟩) ::
  (1000105,.bin .neq 3 (LF (.h 52)) (LF (.h 16)) (LF (.h 53))) ::
  (10053,.fb 53 false) ::
  (1000110,.call ⟨22,[.o (.g [.h 32,.h 33,.h 34,.h 35]),.o (.g [.h 37,.h 38,.h 39,.h 40])],[],.o (.c (.h 54)),[]⟩) ::
  (1000113,.call ⟨26,[.o (.g [.h 12,.h 13,.h 14,.h 15])],[],.o (.c (.h 55)),[]⟩) ::
  (1000114,.bin .mul 3 (LF (.h 16)) (LF (.h 55)) (LF (.h 56))) ::
  (1000115,.bin .neq 3 (LF (.h 54)) (LF (.h 56)) (LF (.h 57))) ::
  (10057,.fb 57 false) ::
  (1000118,.bin .eql 3 (LF (.h 16)) (LF (.k (.int .i64 0))) (LF (.h 58))) ::
  (10058,.fb 58 true) ::
  (1000122,.call ⟨17,[.o (.g [.h 4,.h 5,.h 6,.h 7]),.o (.g [.h 8,.h 9,.h 10,.h 11])],[],.o (.c (.h 59)),[]⟩) ::
  (1000123,.un .not (LF (.h 59)) (LF (.h 60))) ::
  (10060,.fb 60 false) ::
  (1000127,.bin .leq 3 (LF (.h 16)) (LF (.k (.int .i64 0))) (LF (.h 61))) ::
  (10061,.fb 61 true) ::
  (1000131,.call ⟨22,[.o (.g [.h 8,.h 9,.h 10,.h 11]),.o (.g [.h 12,.h 13,.h 14,.h 15])],[],.o (.c (.h 62)),[]⟩) ::
  (1000132,.bin .leq 3 (LF (.h 62)) (LF (.k (.int .i64 0))) (LF (.h 63))) ::
  (10063,.fb 63 true) ::
  (1000137,.call ⟨22,[.o (.g [.h 4,.h 5,.h 6,.h 7]),.o (.g [.h 12,.h 13,.h 14,.h 15])],[],.o (.c (.h 64)),[]⟩) ::
  (1000138,.bin .gtr 3 (LF (.h 64)) (LF (.k (.int .i64 0))) (LF (.h 65))) ::
  (10065,.fb 65 false) ::
  (10003,.fb 3 true) ::
  (1000145,.call ⟨22,[.o (.g [.h 4,.h 5,.h 6,.h 7]),.o (.g [.h 4,.h 5,.h 6,.h 7])],[],.o (.c (.h 66)),[]⟩) ::
  (1000146,.bin .eql 3 (LF (.h 66)) (LF (.k (.int .i64 0))) (LF (.h 67)))::[]:List (Nat×Ent))) (k:=⟨5,[.o (.g [.h 0,.h 1,.h 2])],[],.o (.c (.h 67)),[]⟩) 0 (zm ⟨(zC zE),(zC zE),(zC zE),za rfl,za rfl,ze,za rfl,ze,za rfl,ze,za rfl,ze,za rfl,ze,za rfl,ze,za rfl,za rfl,ze,za rfl,ze,za rfl,za rfl,ze,za rfl,ze,za rfl,za rfl,ze,za rfl,ze,za rfl,za rfl,ze,za rfl,ze,za rfl,za rfl,ze,za rfl,ze,za rfl,za rfl,za rfl,za rfl,za rfl,za rfl,za rfl,za rfl,za rfl,za rfl,za rfl,za rfl,za rfl,za rfl,za rfl,za rfl,za rfl,za rfl,za rfl,za rfl,za rfl,za rfl,za rfl,za rfl,za rfl,za rfl,za rfl,trivial⟩) ⟨zc (qE hM hTS  v1 e1) rfl rfl rfl rfl,
  zc (qL l.1 v2 e2) rfl rfl rfl rfl,
  zc (qL l.2.1 v3 e3) rfl rfl rfl rfl,
  zc (qL l.2.2 v4 e4) rfl rfl rfl rfl,
  zc (zS v2 v3 v5 e5) rfl rfl rfl rfl,
  zc (zcN v2 v3 v6 v7 e6 e7) rfl rfl rfl rfl,
  zc (zao v2 v4 v8 v9 e8 e9) rfl rfl rfl rfl,
  zc (zao v3 v4 v10 v11 e10 e11) rfl rfl rfl rfl,
  zc (zap v2 v4 v12 v13 e12 e13) rfl rfl rfl rfl,
  zc (zap v3 v4 v14 v15 e14 e15) rfl rfl rfl rfl,
  e_un (zb rfl) (zb rfl) (fun W=>by rw [← e16];exact r_not W),
  e_fb (show pV (.bool v16)=_ by rw [h17]),
  e_un (zb rfl) (zb rfl) (fun W=>by rw [← e18];exact r_not W),
  e_fb (show pV (.bool v18)=_ by rw [h19]),
  e_un (zb rfl) (zb rfl) (fun W=>by rw [← e20];exact r_not W),
  e_fb (show pV (.bool v20)=_ by rw [h21]),
  e_un (zb rfl) (zb rfl) (fun W=>by rw [← e22];exact r_not W),
  e_fb (show pV (.bool v22)=_ by rw [h23]),
  e_un (zb rfl) (zb rfl) (fun W=>by rw [← e24];exact r_not W),
  e_fb (show pV (.bool v24)=_ by rw [h25]),
  zc (qS v6 v26 e26) rfl rfl rfl rfl,
  e_bin (zb rfl) (zb rfl) (zb rfl) (r_cmp (congrArg some e27)),
  e_fb (show pV (.bool v27)=_ by rw [h28]),
  zc (zS v3 v2 v29 e29) rfl rfl rfl rfl,
  e_un (zb rfl) (zb rfl) (fun W=>by rw [← e30];exact r_neg W),
  e_bin (zb rfl) (zb rfl) (zb rfl) (r_cmp (congrArg some e31)),
  e_fb (show pV (.bool v31)=_ by rw [h32]),
  zc (zS v8 v10 v33 e33) rfl rfl rfl rfl,
  e_bin (zb rfl) (zb rfl) (zb rfl) (r_cmp (congrArg some e34)),
  e_fb (show pV (.bool v34)=_ by rw [h35]),
  zc (zS v12 v14 v36 e36) rfl rfl rfl rfl,
  zc (qS v4 v37 e37) rfl rfl rfl rfl,
  e_bin (zb rfl) (zb rfl) (zb rfl) (r_ar (congrArg some e38)),
  e_bin (zb rfl) (zb rfl) (zb rfl) (r_cmp (congrArg some e39)),
  e_fb (show pV (.bool v39)=_ by rw [h40]),
  e_bin (zb rfl) zg (zb rfl) (r_cmp (congrArg some e41)),
  e_fb (show pV (.bool v41)=_ by rw [h42]),
  zc (zY v2 v3 v43 e43) rfl rfl rfl rfl,
  e_un (zb rfl) (zb rfl) (fun W=>by rw [← e44];exact r_not W),
  e_fb (show pV (.bool v44)=_ by rw [h45]),
  e_bin (zb rfl) zg (zb rfl) (r_cmp (congrArg some e46)),
  e_fb (show pV (.bool v46)=_ by rw [h47]),
  zc (zS v3 v4 v48 e48) rfl rfl rfl rfl,
  e_bin (zb rfl) zg (zb rfl) (r_cmp (congrArg some e49)),
  e_fb (show pV (.bool v49)=_ by rw [h50]),
  zc (zS v2 v4 v51 e51) rfl rfl rfl rfl,
  e_bin (zb rfl) zg (zb rfl) (r_cmp (congrArg some e52)),
  e_fb (show pV (.bool v52)=_ by rw [h53]),
  e_fb (show pV (.bool v1)=_ by rw [h54]),
  zc (zS v2 v2 v55 e55) rfl rfl rfl rfl,
  e_bin (zb rfl) zg (zb rfl) (r_cmp (congrArg some e56)),
  trivial⟩ mixed (by kernel_rfl)) rfl rfl rfl rfl
theorem zkk {w0:World} (l:(List Int×List Int×List Int)) (hM:∀W,Below w0.heap.size w0 W→MaxT W) (hTS:∀W,Below w0.heap.size w0 W→PowT w0.heap.size W∧SynT w0.heap.size W) (v1:Bool) (v2:RR) (v3:RR) (v4:RR) (v5:Int) (v6:RR) (v7:Bool) (v8:RR) (v9:Bool) (v10:RR) (v11:Bool) (v12:RR) (v13:Bool) (v14:RR) (v15:Bool) (v16:Bool) (v18:Bool) (v20:Bool) (v22:Bool) (v24:Bool) (v26:Int) (v27:Bool) (v29:Int) (v30:Int) (v31:Bool) (v33:Int) (v34:Bool) (v36:Int) (v37:Int) (v38:Int) (v39:Bool) (v41:Bool) (v43:Bool) (v44:Bool) (v46:Bool) (v48:Int) (v49:Bool) (v52:Int) (v53:Bool) (e1:(true)=v1) (e2:(rq (madeR l.1))=v2) (e3:(rq (madeR l.2.1))=v3) (e4:(rq (madeR l.2.2))=v4) (e5:(cmpO (qq v2) (qq v3))=v5) (e6:(rq (subR (qq v2) (qq v3)))=v6) (e7:((subR (qq v2) (qq v3)).isSome)=v7) (e8:(rq (addR (qq v2) (qq v4)))=v8) (e9:((addR (qq v2) (qq v4)).isSome)=v9) (e10:(rq (addR (qq v3) (qq v4)))=v10) (e11:((addR (qq v3) (qq v4)).isSome)=v11) (e12:(rq (mulR (qq v2) (qq v4)))=v12) (e13:((mulR (qq v2) (qq v4)).isSome)=v13) (e14:(rq (mulR (qq v3) (qq v4)))=v14) (e15:((mulR (qq v3) (qq v4)).isSome)=v15) (e16:(!v7)=v16) (e18:(!v9)=v18) (e20:(!v11)=v20) (e22:(!v13)=v22) (e24:(!v15)=v24) (e26:(sgX v6.1 v6.2)=v26) (e27:((v26 != v5))=v27) (e29:(cmpO (qq v3) (qq v2))=v29) (e30:(IntKind.i64.wrap (0 - v5))=v30) (e31:((v29 != v30))=v31) (e33:(cmpO (qq v8) (qq v10))=v33) (e34:((v33 != v5))=v34) (e36:(cmpO (qq v12) (qq v14))=v36) (e37:(sgX v4.1 v4.2)=v37) (e38:(IntKind.i64.wrap (v5*v37))=v38) (e39:((v36 != v38))=v39) (e41:((v5 == (0:Int)))=v41) (e43:(decide (v2=v3))=v43) (e44:(!v43)=v44) (e46:(decide (v5≤(0:Int)))=v46) (e48:(cmpO (qq v3) (qq v4))=v48) (e49:(decide (v48≤(0:Int)))=v49) (e52:(cmpO (qq v2) (qq v2))=v52) (e53:((v52 == (0:Int)))=v53) (h17:v16=false) (h19:v18=false) (h21:v20=false) (h23:v22=false) (h25:v24=false) (h28:v27=false) (h32:v31=false) (h35:v34=false) (h40:v39=false) (h42:v41=true) (h45:v44=false) (h47:v46=true) (h50:v49=false) (h51:v1=true):Fun (KN w0) Tryz.prog 5 [.o (.g [pLs cI l.1,pLs cI l.2.1,pLs cI l.2.2])] (.o (.c (pB v53))):=
 zi (zl (F:=FL (pLs cI l.1::pLs cI l.2.1::pLs cI l.2.2::pB v1::pB v2.1.1::pD v2.1.2::pB v2.2.1::pD v2.2.2::pB v3.1.1::pD v3.1.2::pB v3.2.1::pD v3.2.2::pB v4.1.1::pD v4.1.2::pB v4.2.1::pD v4.2.2::pI v5::pB v6.1.1::pD v6.1.2::pB v6.2.1::pD v6.2.2::pB v7::pB v8.1.1::pD v8.1.2::pB v8.2.1::pD v8.2.2::pB v9::pB v10.1.1::pD v10.1.2::pB v10.2.1::pD v10.2.2::pB v11::pB v12.1.1::pD v12.1.2::pB v12.2.1::pD v12.2.2::pB v13::pB v14.1.1::pD v14.1.2::pB v14.2.1::pD v14.2.2::pB v15::pB v16::pB v18::pB v20::pB v22::pB v24::pI v26::pB v27::pI v29::pI v30::pB v31::pI v33::pB v34::pI v36::pI v37::pI v38::pB v39::pB v41::pB v43::pB v44::pB v46::pI v48::pB v49::pI v52::pB v53::[]) []) (C:=((1000002,.call ⟨10,[],[],.o (.c (.h 3)),[]⟩) ::
  (1000006,.call ⟨12,[.o (.c (.h 0))],[],.o (.g [.h 4,.h 5,.h 6,.h 7]),[]⟩) ::
  (1000009,.call ⟨12,[.o (.c (.h 1))],[],.o (.g [.h 8,.h 9,.h 10,.h 11]),[]⟩) ::
  (1000012,.call ⟨12,[.o (.c (.h 2))],[],.o (.g [.h 12,.h 13,.h 14,.h 15]),[]⟩) ::
  (1000021,.call ⟨22,[.o (.g [.h 4,.h 5,.h 6,.h 7]),.o (.g [.h 8,.h 9,.h 10,.h 11])],[],.o (.c (.h 16)),[]⟩) ::
  (1000025,.call ⟨15,[.o (.g [.h 4,.h 5,.h 6,.h 7]),.o (.g [.h 8,.h 9,.h 10,.h 11])],[],.t [.g [.h 17,.h 18,.h 19,.h 20],.c (.h 21)],[]⟩) ::
  (1000034,.call ⟨13,[.o (.g [.h 4,.h 5,.h 6,.h 7]),.o (.g [.h 12,.h 13,.h 14,.h 15])],[],.t [.g [.h 22,.h 23,.h 24,.h 25],.c (.h 26)],[]⟩) ::
  (1000043,.call ⟨13,[.o (.g [.h 8,.h 9,.h 10,.h 11]),.o (.g [.h 12,.h 13,.h 14,.h 15])],[],.t [.g [.h 27,.h 28,.h 29,.h 30],.c (.h 31)],[]⟩) ::
  (1000052,.call ⟨18,[.o (.g [.h 4,.h 5,.h 6,.h 7]),.o (.g [.h 12,.h 13,.h 14,.h 15])],[],.t [.g [.h 32,.h 33,.h 34,.h 35],.c (.h 36)],[]⟩) ::
  (1000061,.call ⟨18,[.o (.g [.h 8,.h 9,.h 10,.h 11]),.o (.g [.h 12,.h 13,.h 14,.h 15])],[],.t [.g [.h 37,.h 38,.h 39,.h 40],.c (.h 41)],[]⟩) ::
  (1000069,.un .not (LF (.h 21)) (LF (.h 42))) ::
  (10042,.fb 42 false) ::
  (1000072,.un .not (LF (.h 26)) (LF (.h 43))) ::
  (10043,.fb 43 false) ::
  (1000076,.un .not (LF (.h 31)) (LF (.h 44))) ::
  (10044,.fb 44 false) ::
  (1000080,.un .not (LF (.h 36)) (LF (.h 45))) ::
  (10045,.fb 45 false) ::
  (1000084,.un .not (LF (.h 41)) (LF (.h 46))) ::
  (10046,.fb 46 false) ::
  (1000088,.call ⟨26,[.o (.g [.h 17,.h 18,.h 19,.h 20])],[],.o (.c (.h 47)),[]⟩) ::
  (1000090,.bin .neq 3 (LF (.h 47)) (LF (.h 16)) (LF (.h 48))) ::
  (10048,.fb 48 false) ::
  (1000095,.call ⟨22,[.o (.g [.h 8,.h 9,.h 10,.h 11]),.o (.g [.h 4,.h 5,.h 6,.h 7])],[],.o (.c (.h 49)),[]⟩) ::
  (1000097,.un .neg (LF (.h 16)) (LF (.h 50))) ::
  (1000098,.bin .neq 3 (LF (.h 49)) (LF (.h 50)) (LF (.h 51))) ::
  (10051,.fb 51 false) ::
  (1000103,.call ⟨22,[.o (.g [.h 22,.h 23,.h 24,.h 25]),.o (.g [.h 27,.h 28,.h 29,.h 30])],[],.o (.c (.h 52)),[]⟩) ::
  (1000105,.bin .neq 3 (LF (.h 52)) (LF (.h 16)) (LF (.h 53))) ::
  (10053,.fb 53 false) ::
  (1000110,.call ⟨22,[.o (.g [.h 32,.h 33,.h 34,.h 35]),.o (.g [.h 37,.h 38,.h 39,.h 40])],[],.o (.c (.h 54)),[]⟩) ::
  (1000113,.call ⟨26,[.o (.g [.h 12,.h 13,.h 14,.h 15])],[],.o (.c (.h 55)),[]⟩) ::
  (1000114,.bin .mul 3 (LF (.h 16)) (LF (.h 55)) (LF (.h 56))) ::
  (1000115,.bin .neq 3 (LF (.h 54)) (LF (.h 56)) (LF (.h 57))) ::
  (10057,.fb 57 false) ::
  (1000118,.bin .eql 3 (LF (.h 16)) (LF (.k (.int .i64 0))) (LF (.h 58))) ::
  (10058,.fb 58 true) ::
  (1000122,.call ⟨17,[.o (.g [.h 4,.h 5,.h 6,.h 7]),.o (.g [.h 8,.h 9,.h 10,.h 11])],[],.o (.c (.h 59)),[]⟩) ::
  (1000123,.un .not (LF (.h 59)) (LF (.h 60))) ::
  (10060,.fb 60 false) ::
  (1000127,.bin .leq 3 (LF (.h 16)) (LF (.k (.int .i64 0))) (LF (.h 61))) ::
  (10061,.fb 61 true) ::
  (1000131,.call ⟨22,[.o (.g [.h 8,.h 9,.h 10,.h 11]),.o (.g [.h 12,.h 13,.h 14,.h 15])],[],.o (.c (.h 62)),[]⟩) ::
  (1000132,.bin .leq 3 (LF (.h 62)) (LF (.k (.int .i64 0))) (LF (.h 63))) ::
  (10063,.fb 63 false) ::
  (10003,.fb 3 true) ::
  (1000145,.call ⟨22,[.o (.g [.h 4,.h 5,.h 6,.h 7]),.o (.g [.h 4,.h 5,.h 6,.h 7])],[],.o (.c (.h 64)),[]⟩) ::
  (1000146,.bin .eql 3 (LF (.h 64)) (LF (.k (.int .i64 0))) (LF (.h 65)))::[]:List (Nat×Ent))) (k:=⟨5,[.o (.g [.h 0,.h 1,.h 2])],[],.o (.c (.h 65)),[]⟩) 0 (zm ⟨(zC zE),(zC zE),(zC zE),za rfl,za rfl,ze,za rfl,ze,za rfl,ze,za rfl,ze,za rfl,ze,za rfl,ze,za rfl,za rfl,ze,za rfl,ze,za rfl,za rfl,ze,za rfl,ze,za rfl,za rfl,ze,za rfl,ze,za rfl,za rfl,ze,za rfl,ze,za rfl,za rfl,ze,za rfl,ze,za rfl,za rfl,za rfl,za rfl,za rfl,za rfl,za rfl,za rfl,za rfl,za rfl,za rfl,za rfl,za rfl,za rfl,za rfl,za rfl,za rfl,za rfl,za rfl,za rfl,za rfl,za rfl,za rfl,za rfl,za rfl,trivial⟩) ⟨zc (qE hM hTS  v1 e1) rfl rfl rfl rfl,
  zc (qL l.1 v2 e2) rfl rfl rfl rfl,
  zc (qL l.2.1 v3 e3) rfl rfl rfl rfl,
  zc (qL l.2.2 v4 e4) rfl rfl rfl rfl,
  zc (zS v2 v3 v5 e5) rfl rfl rfl rfl,
  zc (zcN v2 v3 v6 v7 e6 e7) rfl rfl rfl rfl,
  zc (zao v2 v4 v8 v9 e8 e9) rfl rfl rfl rfl,
  zc (zao v3 v4 v10 v11 e10 e11) rfl rfl rfl rfl,
  zc (zap v2 v4 v12 v13 e12 e13) rfl rfl rfl rfl,
  zc (zap v3 v4 v14 v15 e14 e15) rfl rfl rfl rfl,
  e_un (zb rfl) (zb rfl) (fun W=>by rw [← e16];exact r_not W),
  e_fb (show pV (.bool v16)=_ by rw [h17]),
  e_un (zb rfl) (zb rfl) (fun W=>by rw [← e18];exact r_not W),
  e_fb (show pV (.bool v18)=_ by rw [h19]),
  e_un (zb rfl) (zb rfl) (fun W=>by rw [← e20];exact r_not W),
  e_fb (show pV (.bool v20)=_ by rw [h21]),
  e_un (zb rfl) (zb rfl) (fun W=>by rw [← e22];exact r_not W),
  e_fb (show pV (.bool v22)=_ by rw [h23]),
  e_un (zb rfl) (zb rfl) (fun W=>by rw [← e24];exact r_not W),
  e_fb (show pV (.bool v24)=_ by rw [h25]),
  zc (qS v6 v26 e26) rfl rfl rfl rfl,
  e_bin (zb rfl) (zb rfl) (zb rfl) (r_cmp (congrArg some e27)),
  e_fb (show pV (.bool v27)=_ by rw [h28]),
  zc (zS v3 v2 v29 e29) rfl rfl rfl rfl,
  e_un (zb rfl) (zb rfl) (fun W=>by rw [← e30];exact r_neg W),
  e_bin (zb rfl) (zb rfl) (zb rfl) (r_cmp (congrArg some e31)),
  e_fb (show pV (.bool v31)=_ by rw [h32]),
  zc (zS v8 v10 v33 e33) rfl rfl rfl rfl,
  e_bin (zb rfl) (zb rfl) (zb rfl) (r_cmp (congrArg some e34)),
  e_fb (show pV (.bool v34)=_ by rw [h35]),
  zc (zS v12 v14 v36 e36) rfl rfl rfl rfl,
  zc (qS v4 v37 e37) rfl rfl rfl rfl,
  e_bin (zb rfl) (zb rfl) (zb rfl) (r_ar (congrArg some e38)),
  e_bin (zb rfl) (zb rfl) (zb rfl) (r_cmp (congrArg some e39)),
  e_fb (show pV (.bool v39)=_ by rw [h40]),
  e_bin (zb rfl) zg (zb rfl) (r_cmp (congrArg some e41)),
  e_fb (show pV (.bool v41)=_ by rw [h42]),
  zc (zY v2 v3 v43 e43) rfl rfl rfl rfl,
  e_un (zb rfl) (zb rfl) (fun W=>by rw [← e44];exact r_not W),
  e_fb (show pV (.bool v44)=_ by rw [h45]),
  e_bin (zb rfl) zg (zb rfl) (r_cmp (congrArg some e46)),
  e_fb (show pV (.bool v46)=_ by rw [h47]),
  zc (zS v3 v4 v48 e48) rfl rfl rfl rfl,
  e_bin (zb rfl) zg (zb rfl) (r_cmp (congrArg some e49)),
  e_fb (show pV (.bool v49)=_ by rw [h50]),
  e_fb (show pV (.bool v1)=_ by rw [h51]),
  zc (zS v2 v2 v52 e52) rfl rfl rfl rfl,
  e_bin (zb rfl) zg (zb rfl) (r_cmp (congrArg some e53)),
  trivial⟩ mixed (by kernel_rfl)) rfl rfl rfl rfl
theorem zkl {w0:World} (l:(List Int×List Int×List Int)) (hM:∀W,Below w0.heap.size w0 W→MaxT W) (hTS:∀W,Below w0.heap.size w0 W→PowT w0.heap.size W∧SynT w0.heap.size W) (v1:Bool) (v2:RR) (v3:RR) (v4:RR) (v5:Int) (v6:RR) (v7:Bool) (v8:RR) (v9:Bool) (v10:RR) (v11:Bool) (v12:RR) (v13:Bool) (v14:RR) (v15:Bool) (v16:Bool) (v18:Bool) (v20:Bool) (v22:Bool) (v24:Bool) (v26:Int) (v27:Bool) (v29:Int) (v30:Int) (v31:Bool) (v33:Int) (v34:Bool) (v36:Int) (v37:Int) (v38:Int) (v39:Bool) (v41:Bool) (v43:Bool) (v44:Bool) (v46:Bool) (v49:Int) (v50:Bool) (e1:(true)=v1) (e2:(rq (madeR l.1))=v2) (e3:(rq (madeR l.2.1))=v3) (e4:(rq (madeR l.2.2))=v4) (e5:(cmpO (qq v2) (qq v3))=v5) (e6:(rq (subR (qq v2) (qq v3)))=v6) (e7:((subR (qq v2) (qq v3)).isSome)=v7) (e8:(rq (addR (qq v2) (qq v4)))=v8) (e9:((addR (qq v2) (qq v4)).isSome)=v9) (e10:(rq (addR (qq v3) (qq v4)))=v10) (e11:((addR (qq v3) (qq v4)).isSome)=v11) (e12:(rq (mulR (qq v2) (qq v4)))=v12) (e13:((mulR (qq v2) (qq v4)).isSome)=v13) (e14:(rq (mulR (qq v3) (qq v4)))=v14) (e15:((mulR (qq v3) (qq v4)).isSome)=v15) (e16:(!v7)=v16) (e18:(!v9)=v18) (e20:(!v11)=v20) (e22:(!v13)=v22) (e24:(!v15)=v24) (e26:(sgX v6.1 v6.2)=v26) (e27:((v26 != v5))=v27) (e29:(cmpO (qq v3) (qq v2))=v29) (e30:(IntKind.i64.wrap (0 - v5))=v30) (e31:((v29 != v30))=v31) (e33:(cmpO (qq v8) (qq v10))=v33) (e34:((v33 != v5))=v34) (e36:(cmpO (qq v12) (qq v14))=v36) (e37:(sgX v4.1 v4.2)=v37) (e38:(IntKind.i64.wrap (v5*v37))=v38) (e39:((v36 != v38))=v39) (e41:((v5 == (0:Int)))=v41) (e43:(decide (v2=v3))=v43) (e44:(!v43)=v44) (e46:(decide (v5≤(0:Int)))=v46) (e49:(cmpO (qq v2) (qq v2))=v49) (e50:((v49 == (0:Int)))=v50) (h17:v16=false) (h19:v18=false) (h21:v20=false) (h23:v22=false) (h25:v24=false) (h28:v27=false) (h32:v31=false) (h35:v34=false) (h40:v39=false) (h42:v41=true) (h45:v44=false) (h47:v46=false) (h48:v1=true):Fun (KN w0) Tryz.prog 5 [.o (.g [pLs cI l.1,pLs cI l.2.1,pLs cI l.2.2])] (.o (.c (pB v50))):=
 zi (zl (F:=FL (pLs cI l.1::pLs cI l.2.1::pLs cI l.2.2::pB v1::pB v2.1.1::pD v2.1.2::pB v2.2.1::pD v2.2.2::pB v3.1.1::pD v3.1.2::pB v3.2.1::pD v3.2.2::pB v4.1.1::pD v4.1.2::pB v4.2.1::pD v4.2.2::pI v5::pB v6.1.1::pD v6.1.2::pB v6.2.1::pD v6.2.2::pB v7::pB v8.1.1::pD v8.1.2::pB v8.2.1::pD v8.2.2::pB v9::pB v10.1.1::pD v10.1.2::pB v10.2.1::pD v10.2.2::pB v11::pB v12.1.1::pD v12.1.2::pB v12.2.1::pD v12.2.2::pB v13::pB v14.1.1::pD v14.1.2::pB v14.2.1::pD v14.2.2::pB v15::pB v16::pB v18::pB v20::pB v22::pB v24::pI v26::pB v27::pI v29::pI v30::pB v31::pI v33::pB v34::pI v36::pI v37::pI v38::pB v39::pB v41::pB v43::pB v44::pB v46::pI v49::pB v50::[]) []) (C:=((1000002,.call ⟨10,[],[],.o (.c (.h 3)),[]⟩) ::
  (1000006,.call ⟨12,[.o (.c (.h 0))],[],.o (.g [.h 4,.h 5,.h 6,.h 7]),[]⟩) ::
  (1000009,.call ⟨12,[.o (.c (.h 1))],[],.o (.g [.h 8,.h 9,.h 10,.h 11]),[]⟩) ::
  (1000012,.call ⟨12,[.o (.c (.h 2))],[],.o (.g [.h 12,.h 13,.h 14,.h 15]),[]⟩) ::
  (1000021,.call ⟨22,[.o (.g [.h 4,.h 5,.h 6,.h 7]),.o (.g [.h 8,.h 9,.h 10,.h 11])],[],.o (.c (.h 16)),[]⟩) ::
  (1000025,.call ⟨15,[.o (.g [.h 4,.h 5,.h 6,.h 7]),.o (.g [.h 8,.h 9,.h 10,.h 11])],[],.t [.g [.h 17,.h 18,.h 19,.h 20],.c (.h 21)],[]⟩) ::
  (1000034,.call ⟨13,[.o (.g [.h 4,.h 5,.h 6,.h 7]),.o (.g [.h 12,.h 13,.h 14,.h 15])],[],.t [.g [.h 22,.h 23,.h 24,.h 25],.c (.h 26)],[]⟩) ::
  (1000043,.call ⟨13,[.o (.g [.h 8,.h 9,.h 10,.h 11]),.o (.g [.h 12,.h 13,.h 14,.h 15])],[],.t [.g [.h 27,.h 28,.h 29,.h 30],.c (.h 31)],[]⟩) ::
  (1000052,.call ⟨18,[.o (.g [.h 4,.h 5,.h 6,.h 7]),.o (.g [.h 12,.h 13,.h 14,.h 15])],[],.t [.g [.h 32,.h 33,.h 34,.h 35],.c (.h 36)],[]⟩) ::
  (1000061,.call ⟨18,[.o (.g [.h 8,.h 9,.h 10,.h 11]),.o (.g [.h 12,.h 13,.h 14,.h 15])],[],.t [.g [.h 37,.h 38,.h 39,.h 40],.c (.h 41)],[]⟩) ::
  (1000069,.un .not (LF (.h 21)) (LF (.h 42))) ::
  (10042,.fb 42 false) ::
  (1000072,.un .not (LF (.h 26)) (LF (.h 43))) ::
  (10043,.fb 43 false) ::
  (1000076,.un .not (LF (.h 31)) (LF (.h 44))) ::
  (10044,.fb 44 false) ::
  (1000080,.un .not (LF (.h 36)) (LF (.h 45))) ::
  (10045,.fb 45 false) ::
  (1000084,.un .not (LF (.h 41)) (LF (.h 46))) ::
  (10046,.fb 46 false) ::
  (1000088,.call ⟨26,[.o (.g [.h 17,.h 18,.h 19,.h 20])],[],.o (.c (.h 47)),[]⟩) ::
  (1000090,.bin .neq 3 (LF (.h 47)) (LF (.h 16)) (LF (.h 48))) ::
  (10048,.fb 48 false) ::
  (1000095,.call ⟨22,[.o (.g [.h 8,.h 9,.h 10,.h 11]),.o (.g [.h 4,.h 5,.h 6,.h 7])],[],.o (.c (.h 49)),[]⟩) ::
  (1000097,.un .neg (LF (.h 16)) (LF (.h 50))) ::
  (1000098,.bin .neq 3 (LF (.h 49)) (LF (.h 50)) (LF (.h 51))) ::
  (10051,.fb 51 false) ::
  (1000103,.call ⟨22,[.o (.g [.h 22,.h 23,.h 24,.h 25]),.o (.g [.h 27,.h 28,.h 29,.h 30])],[],.o (.c (.h 52)),[]⟩) ::
  (1000105,.bin .neq 3 (LF (.h 52)) (LF (.h 16)) (LF (.h 53))) ::
  (10053,.fb 53 false) ::
  (1000110,.call ⟨22,[.o (.g [.h 32,.h 33,.h 34,.h 35]),.o (.g [.h 37,.h 38,.h 39,.h 40])],[],.o (.c (.h 54)),[]⟩) ::
  (1000113,.call ⟨26,[.o (.g [.h 12,.h 13,.h 14,.h 15])],[],.o (.c (.h 55)),[]⟩) ::
  (1000114,.bin .mul 3 (LF (.h 16)) (LF (.h 55)) (LF (.h 56))) ::
  (1000115,.bin .neq 3 (LF (.h 54)) (LF (.h 56)) (LF (.h 57))) ::
  (10057,.fb 57 false) ::
  (1000118,.bin .eql 3 (LF (.h 16)) (LF (.k (.int .i64 0))) (LF (.h 58))) ::
  (10058,.fb 58 true) ::
  (1000122,.call ⟨17,[.o (.g [.h 4,.h 5,.h 6,.h 7]),.o (.g [.h 8,.h 9,.h 10,.h 11])],[],.o (.c (.h 59)),[]⟩) ::
  (1000123,.un .not (LF (.h 59)) (LF (.h 60))) ::
  (10060,.fb 60 false) ::
  (1000127,.bin .leq 3 (LF (.h 16)) (LF (.k (.int .i64 0))) (LF (.h 61))) ::
  (10061,.fb 61 false) ::
  (10003,.fb 3 true) ::
  (1000145,.call ⟨22,[.o (.g [.h 4,.h 5,.h 6,.h 7]),.o (.g [.h 4,.h 5,.h 6,.h 7])],[],.o (.c (.h 62)),[]⟩) ::
  (1000146,.bin .eql 3 (LF (.h 62)) (LF (.k (.int .i64 0))) (LF (.h 63)))::[]:List (Nat×Ent))) (k:=⟨5,[.o (.g [.h 0,.h 1,.h 2])],[],.o (.c (.h 63)),[]⟩) 0 (zm ⟨(zC zE),(zC zE),(zC zE),za rfl,za rfl,ze,za rfl,ze,za rfl,ze,za rfl,ze,za rfl,ze,za rfl,ze,za rfl,za rfl,ze,za rfl,ze,za rfl,za rfl,ze,za rfl,ze,za rfl,za rfl,ze,za rfl,ze,za rfl,za rfl,ze,za rfl,ze,za rfl,za rfl,ze,za rfl,ze,za rfl,za rfl,za rfl,za rfl,za rfl,za rfl,za rfl,za rfl,za rfl,za rfl,za rfl,za rfl,za rfl,za rfl,za rfl,za rfl,za rfl,za rfl,za rfl,za rfl,za rfl,za rfl,za rfl,trivial⟩) ⟨zc (qE hM hTS  v1 e1) rfl rfl rfl rfl,
  zc (qL l.1 v2 e2) rfl rfl rfl rfl,
  zc (qL l.2.1 v3 e3) rfl rfl rfl rfl,
  zc (qL l.2.2 v4 e4) rfl rfl rfl rfl,
  zc (zS v2 v3 v5 e5) rfl rfl rfl rfl,
  zc (zcN v2 v3 v6 v7 e6 e7) rfl rfl rfl rfl,
  zc (zao v2 v4 v8 v9 e8 e9) rfl rfl rfl rfl,
  zc (zao v3 v4 v10 v11 e10 e11) rfl rfl rfl rfl,
  zc (zap v2 v4 v12 v13 e12 e13) rfl rfl rfl rfl,
  zc (zap v3 v4 v14 v15 e14 e15) rfl rfl rfl rfl,
  e_un (zb rfl) (zb rfl) (fun W=>by rw [← e16];exact r_not W),
  e_fb (show pV (.bool v16)=_ by rw [h17]),
  e_un (zb rfl) (zb rfl) (fun W=>by rw [← e18];exact r_not W),
  e_fb (show pV (.bool v18)=_ by rw [h19]),
  e_un (zb rfl) (zb rfl) (fun W=>by rw [← e20];exact r_not W),
  e_fb (show pV (.bool v20)=_ by rw [h21]),
  e_un (zb rfl) (zb rfl) (fun W=>by rw [← e22];exact r_not W),
  e_fb (show pV (.bool v22)=_ by rw [h23]),
  e_un (zb rfl) (zb rfl) (fun W=>by rw [← e24];exact r_not W),
  e_fb (show pV (.bool v24)=_ by rw [h25]),
  zc (qS v6 v26 e26) rfl rfl rfl rfl,
  e_bin (zb rfl) (zb rfl) (zb rfl) (r_cmp (congrArg some e27)),
  e_fb (show pV (.bool v27)=_ by rw [h28]),
  zc (zS v3 v2 v29 e29) rfl rfl rfl rfl,
  e_un (zb rfl) (zb rfl) (fun W=>by rw [← e30];exact r_neg W),
  e_bin (zb rfl) (zb rfl) (zb rfl) (r_cmp (congrArg some e31)),
  e_fb (show pV (.bool v31)=_ by rw [h32]),
  zc (zS v8 v10 v33 e33) rfl rfl rfl rfl,
  e_bin (zb rfl) (zb rfl) (zb rfl) (r_cmp (congrArg some e34)),
  e_fb (show pV (.bool v34)=_ by rw [h35]),
  zc (zS v12 v14 v36 e36) rfl rfl rfl rfl,
  zc (qS v4 v37 e37) rfl rfl rfl rfl,
  e_bin (zb rfl) (zb rfl) (zb rfl) (r_ar (congrArg some e38)),
  e_bin (zb rfl) (zb rfl) (zb rfl) (r_cmp (congrArg some e39)),
  e_fb (show pV (.bool v39)=_ by rw [h40]),
  e_bin (zb rfl) zg (zb rfl) (r_cmp (congrArg some e41)),
  e_fb (show pV (.bool v41)=_ by rw [h42]),
  zc (zY v2 v3 v43 e43) rfl rfl rfl rfl,
  e_un (zb rfl) (zb rfl) (fun W=>by rw [← e44];exact r_not W),
  e_fb (show pV (.bool v44)=_ by rw [h45]),
  e_bin (zb rfl) zg (zb rfl) (r_cmp (congrArg some e46)),
  e_fb (show pV (.bool v46)=_ by rw [h47]),
  e_fb (show pV (.bool v1)=_ by rw [h48]),
  zc (zS v2 v2 v49 e49) rfl rfl rfl rfl,
  e_bin (zb rfl) zg (zb rfl) (r_cmp (congrArg some e50)),
  trivial⟩ mixed (by kernel_rfl)) rfl rfl rfl rfl
theorem zkm {w0:World} (l:(List Int×List Int×List Int)) (hM:∀W,Below w0.heap.size w0 W→MaxT W) (hTS:∀W,Below w0.heap.size w0 W→PowT w0.heap.size W∧SynT w0.heap.size W) (v1:Bool) (v2:RR) (v3:RR) (v4:RR) (v5:Int) (v6:RR) (v7:Bool) (v8:RR) (v9:Bool) (v10:RR) (v11:Bool) (v12:RR) (v13:Bool) (v14:RR) (v15:Bool) (v16:Bool) (v18:Bool) (v20:Bool) (v22:Bool) (v24:Bool) (v26:Int) (v27:Bool) (v29:Int) (v30:Int) (v31:Bool) (v33:Int) (v34:Bool) (v36:Int) (v37:Int) (v38:Int) (v39:Bool) (v41:Bool) (v43:Bool) (v45:Int) (v46:Bool) (v48:Int) (v49:Bool) (v52:Int) (v53:Bool) (e1:(true)=v1) (e2:(rq (madeR l.1))=v2) (e3:(rq (madeR l.2.1))=v3) (e4:(rq (madeR l.2.2))=v4) (e5:(cmpO (qq v2) (qq v3))=v5) (e6:(rq (subR (qq v2) (qq v3)))=v6) (e7:((subR (qq v2) (qq v3)).isSome)=v7) (e8:(rq (addR (qq v2) (qq v4)))=v8) (e9:((addR (qq v2) (qq v4)).isSome)=v9) (e10:(rq (addR (qq v3) (qq v4)))=v10) (e11:((addR (qq v3) (qq v4)).isSome)=v11) (e12:(rq (mulR (qq v2) (qq v4)))=v12) (e13:((mulR (qq v2) (qq v4)).isSome)=v13) (e14:(rq (mulR (qq v3) (qq v4)))=v14) (e15:((mulR (qq v3) (qq v4)).isSome)=v15) (e16:(!v7)=v16) (e18:(!v9)=v18) (e20:(!v11)=v20) (e22:(!v13)=v22) (e24:(!v15)=v24) (e26:(sgX v6.1 v6.2)=v26) (e27:((v26 != v5))=v27) (e29:(cmpO (qq v3) (qq v2))=v29) (e30:(IntKind.i64.wrap (0 - v5))=v30) (e31:((v29 != v30))=v31) (e33:(cmpO (qq v8) (qq v10))=v33) (e34:((v33 != v5))=v34) (e36:(cmpO (qq v12) (qq v14))=v36) (e37:(sgX v4.1 v4.2)=v37) (e38:(IntKind.i64.wrap (v5*v37))=v38) (e39:((v36 != v38))=v39) (e41:((v5 == (0:Int)))=v41) (e43:(decide (v5≤(0:Int)))=v43) (e45:(cmpO (qq v3) (qq v4))=v45) (e46:(decide (v45≤(0:Int)))=v46) (e48:(cmpO (qq v2) (qq v4))=v48) (e49:(decide (v48 > (0:Int)))=v49) (e52:(cmpO (qq v2) (qq v2))=v52) (e53:((v52 == (0:Int)))=v53) (h17:v16=false) (h19:v18=false) (h21:v20=false) (h23:v22=false) (h25:v24=false) (h28:v27=false) (h32:v31=false) (h35:v34=false) (h40:v39=false) (h42:v41=false) (h44:v43=true) (h47:v46=true) (h50:v49=false) (h51:v1=true):Fun (KN w0) Tryz.prog 5 [.o (.g [pLs cI l.1,pLs cI l.2.1,pLs cI l.2.2])] (.o (.c (pB v53))):=
 zi (zl (F:=FL (pLs cI l.1::pLs cI l.2.1::pLs cI l.2.2::pB v1::pB v2.1.1::pD v2.1.2::pB v2.2.1::pD v2.2.2::pB v3.1.1::pD v3.1.2::pB v3.2.1::pD v3.2.2::pB v4.1.1::pD v4.1.2::pB v4.2.1::pD v4.2.2::pI v5::pB v6.1.1::pD v6.1.2::pB v6.2.1::pD v6.2.2::pB v7::pB v8.1.1::pD v8.1.2::pB v8.2.1::pD v8.2.2::pB v9::pB v10.1.1::pD v10.1.2::pB v10.2.1::pD v10.2.2::pB v11::pB v12.1.1::pD v12.1.2::pB v12.2.1::pD v12.2.2::pB v13::pB v14.1.1::pD v14.1.2::pB v14.2.1::pD v14.2.2::pB v15::pB v16::pB v18::pB v20::pB v22::pB v24::pI v26::pB v27::pI v29::pI v30::pB v31::pI v33::pB v34::pI v36::pI v37::pI v38::pB v39::pB v41::pB v43::pI v45::pB v46::pI v48::pB v49::pI v52::pB v53::[]) []) (C:=((1000002,.call ⟨10,[],[],.o (.c (.h 3)),[]⟩) ::
  (1000006,.call ⟨12,[.o (.c (.h 0))],[],.o (.g [.h 4,.h 5,.h 6,.h 7]),[]⟩) ::
  (1000009,.call ⟨12,[.o (.c (.h 1))],[],.o (.g [.h 8,.h 9,.h 10,.h 11]),[]⟩) ::
  (1000012,.call ⟨12,[.o (.c (.h 2))],[],.o (.g [.h 12,.h 13,.h 14,.h 15]),[]⟩) ::
  (1000021,.call ⟨22,[.o (.g [.h 4,.h 5,.h 6,.h 7]),.o (.g [.h 8,.h 9,.h 10,.h 11])],[],.o (.c (.h 16)),[]⟩) ::
  (1000025,.call ⟨15,[.o (.g [.h 4,.h 5,.h 6,.h 7]),.o (.g [.h 8,.h 9,.h 10,.h 11])],[],.t [.g [.h 17,.h 18,.h 19,.h 20],.c (.h 21)],[]⟩) ::
  (1000034,.call ⟨13,[.o (.g [.h 4,.h 5,.h 6,.h 7]),.o (.g [.h 12,.h 13,.h 14,.h 15])],[],.t [.g [.h 22,.h 23,.h 24,.h 25],.c (.h 26)],[]⟩) ::
  (1000043,.call ⟨13,[.o (.g [.h 8,.h 9,.h 10,.h 11]),.o (.g [.h 12,.h 13,.h 14,.h 15])],[],.t [.g [.h 27,.h 28,.h 29,.h 30],.c (.h 31)],[]⟩) ::
  (1000052,.call ⟨18,[.o (.g [.h 4,.h 5,.h 6,.h 7]),.o (.g [.h 12,.h 13,.h 14,.h 15])],[],.t [.g [.h 32,.h 33,.h 34,.h 35],.c (.h 36)],[]⟩) ::
  (1000061,.call ⟨18,[.o (.g [.h 8,.h 9,.h 10,.h 11]),.o (.g [.h 12,.h 13,.h 14,.h 15])],[],.t [.g [.h 37,.h 38,.h 39,.h 40],.c (.h 41)],[]⟩) ::
  (1000069,.un .not (LF (.h 21)) (LF (.h 42))) ::
  (10042,.fb 42 false) ::
  (1000072,.un .not (LF (.h 26)) (LF (.h 43))) ::
  (10043,.fb 43 false) ::
  (1000076,.un .not (LF (.h 31)) (LF (.h 44))) ::
  (10044,.fb 44 false) ::
  (1000080,.un .not (LF (.h 36)) (LF (.h 45))) ::
  (10045,.fb 45 false) ::
  (1000084,.un .not (LF (.h 41)) (LF (.h 46))) ::
  (10046,.fb 46 false) ::
  (1000088,.call ⟨26,[.o (.g [.h 17,.h 18,.h 19,.h 20])],[],.o (.c (.h 47)),[]⟩) ::
  (1000090,.bin .neq 3 (LF (.h 47)) (LF (.h 16)) (LF (.h 48))) ::
  (10048,.fb 48 false) ::
  (1000095,.call ⟨22,[.o (.g [.h 8,.h 9,.h 10,.h 11]),.o (.g [.h 4,.h 5,.h 6,.h 7])],[],.o (.c (.h 49)),[]⟩) ::
  (1000097,.un .neg (LF (.h 16)) (LF (.h 50))) ::
  (1000098,.bin .neq 3 (LF (.h 49)) (LF (.h 50)) (LF (.h 51))) ::
  (10051,.fb 51 false) ::
  (1000103,.call ⟨22,[.o (.g [.h 22,.h 23,.h 24,.h 25]),.o (.g [.h 27,.h 28,.h 29,.h 30])],[],.o (.c (.h 52)),[]⟩) ::
  (1000105,.bin .neq 3 (LF (.h 52)) (LF (.h 16)) (LF (.h 53))) ::
  (10053,.fb 53 false) ::
  (1000110,.call ⟨22,[.o (.g [.h 32,.h 33,.h 34,.h 35]),.o (.g [.h 37,.h 38,.h 39,.h 40])],[],.o (.c (.h 54)),[]⟩) ::
  (1000113,.call ⟨26,[.o (.g [.h 12,.h 13,.h 14,.h 15])],[],.o (.c (.h 55)),[]⟩) ::
  (1000114,.bin .mul 3 (LF (.h 16)) (LF (.h 55)) (LF (.h 56))) ::
  (1000115,.bin .neq 3 (LF (.h 54)) (LF (.h 56)) (LF (.h 57))) ::
  (10057,.fb 57 false) ::
  (1000118,.bin .eql 3 (LF (.h 16)) (LF (.k (.int .i64 0))) (LF (.h 58))) ::
  (10058,.fb 58 false) ::
  (1000127,.bin .leq 3 (LF (.h 16)) (LF (.k (.int .i64 0))) (LF (.h 59))) ::
  (10059,.fb 59 true) ::
  (1000131,.call ⟨22,[.o (.g [.h 8,.h 9,.h 10,.h 11]),.o (.g [.h 12,.h 13,.h 14,.h 15])],[],.o (.c (.h 60)),[]⟩) ::
  (1000132,.bin .leq 3 (LF (.h 60)) (LF (.k (.int .i64 0))) (LF (.h 61))) ::
  (10061,.fb 61 true) ::
  (1000137,.call ⟨22,[.o (.g [.h 4,.h 5,.h 6,.h 7]),.o (.g [.h 12,.h 13,.h 14,.h 15])],[],.o (.c (.h 62)),[]⟩) ::
  (1000138,.bin .gtr 3 (LF (.h 62)) (LF (.k (.int .i64 0))) (LF (.h 63))) ::
  (10063,.fb 63 false) ::
  (10003,.fb 3 true) ::
  (1000145,.call ⟨22,[.o (.g [.h 4,.h 5,.h 6,.h 7]),.o (.g [.h 4,.h 5,.h 6,.h 7])],[],.o (.c (.h 64)),[]⟩) ::
  (1000146,.bin .eql 3 (LF (.h 64)) (LF (.k (.int .i64 0))) (LF (.h 65)))::[]:List (Nat×Ent))) (k:=⟨5,[.o (.g [.h 0,.h 1,.h 2])],[],.o (.c (.h 65)),[]⟩) 0 (zm ⟨(zC zE),(zC zE),(zC zE),za rfl,za rfl,ze,za rfl,ze,za rfl,ze,za rfl,ze,za rfl,ze,za rfl,ze,za rfl,za rfl,ze,za rfl,ze,za rfl,za rfl,ze,za rfl,ze,za rfl,za rfl,ze,za rfl,ze,za rfl,za rfl,ze,za rfl,ze,za rfl,za rfl,ze,za rfl,ze,za rfl,za rfl,za rfl,za rfl,za rfl,za rfl,za rfl,za rfl,za rfl,za rfl,za rfl,za rfl,za rfl,za rfl,za rfl,za rfl,za rfl,za rfl,za rfl,za rfl,za rfl,za rfl,za rfl,za rfl,za rfl,trivial⟩) ⟨zc (qE hM hTS  v1 e1) rfl rfl rfl rfl,
  zc (qL l.1 v2 e2) rfl rfl rfl rfl,
  zc (qL l.2.1 v3 e3) rfl rfl rfl rfl,
  zc (qL l.2.2 v4 e4) rfl rfl rfl rfl,
  zc (zS v2 v3 v5 e5) rfl rfl rfl rfl,
  zc (zcN v2 v3 v6 v7 e6 e7) rfl rfl rfl rfl,
  zc (zao v2 v4 v8 v9 e8 e9) rfl rfl rfl rfl,
  zc (zao v3 v4 v10 v11 e10 e11) rfl rfl rfl rfl,
  zc (zap v2 v4 v12 v13 e12 e13) rfl rfl rfl rfl,
  zc (zap v3 v4 v14 v15 e14 e15) rfl rfl rfl rfl,
  e_un (zb rfl) (zb rfl) (fun W=>by rw [← e16];exact r_not W),
  e_fb (show pV (.bool v16)=_ by rw [h17]),
  e_un (zb rfl) (zb rfl) (fun W=>by rw [← e18];exact r_not W),
  e_fb (show pV (.bool v18)=_ by rw [h19]),
  e_un (zb rfl) (zb rfl) (fun W=>by rw [← e20];exact r_not W),
  e_fb (show pV (.bool v20)=_ by rw [h21]),
  e_un (zb rfl) (zb rfl) (fun W=>by rw [← e22];exact r_not W),
  e_fb (show pV (.bool v22)=_ by rw [h23]),
  e_un (zb rfl) (zb rfl) (fun W=>by rw [← e24];exact r_not W),
  e_fb (show pV (.bool v24)=_ by rw [h25]),
  zc (qS v6 v26 e26) rfl rfl rfl rfl,
  e_bin (zb rfl) (zb rfl) (zb rfl) (r_cmp (congrArg some e27)),
  e_fb (show pV (.bool v27)=_ by rw [h28]),
  zc (zS v3 v2 v29 e29) rfl rfl rfl rfl,
  e_un (zb rfl) (zb rfl) (fun W=>by rw [← e30];exact r_neg W),
  e_bin (zb rfl) (zb rfl) (zb rfl) (r_cmp (congrArg some e31)),
  e_fb (show pV (.bool v31)=_ by rw [h32]),
  zc (zS v8 v10 v33 e33) rfl rfl rfl rfl,
  e_bin (zb rfl) (zb rfl) (zb rfl) (r_cmp (congrArg some e34)),
  e_fb (show pV (.bool v34)=_ by rw [h35]),
  zc (zS v12 v14 v36 e36) rfl rfl rfl rfl,
  zc (qS v4 v37 e37) rfl rfl rfl rfl,
  e_bin (zb rfl) (zb rfl) (zb rfl) (r_ar (congrArg some e38)),
  e_bin (zb rfl) (zb rfl) (zb rfl) (r_cmp (congrArg some e39)),
  e_fb (show pV (.bool v39)=_ by rw [h40]),
  e_bin (zb rfl) zg (zb rfl) (r_cmp (congrArg some e41)),
  e_fb (show pV (.bool v41)=_ by rw [h42]),
  e_bin (zb rfl) zg (zb rfl) (r_cmp (congrArg some e43)),
  e_fb (show pV (.bool v43)=_ by rw [h44]),
  zc (zS v3 v4 v45 e45) rfl rfl rfl rfl,
  e_bin (zb rfl) zg (zb rfl) (r_cmp (congrArg some e46)),
  e_fb (show pV (.bool v46)=_ by rw [h47]),
  zc (zS v2 v4 v48 e48) rfl rfl rfl rfl,
  e_bin (zb rfl) zg (zb rfl) (r_cmp (congrArg some e49)),
  e_fb (show pV (.bool v49)=_ by rw [h50]),
  e_fb (show pV (.bool v1)=_ by rw [h51]),
  zc (zS v2 v2 v52 e52) rfl rfl rfl rfl,
  e_bin (zb rfl) zg (zb rfl) (r_cmp (congrArg some e53)),
  trivial⟩ mixed (by kernel_rfl)) rfl rfl rfl rfl
theorem zkn {w0:World} (l:(List Int×List Int×List Int)) (hM:∀W,Below w0.heap.size w0 W→MaxT W) (hTS:∀W,Below w0.heap.size w0 W→PowT w0.heap.size W∧SynT w0.heap.size W) (v1:Bool) (v2:RR) (v3:RR) (v4:RR) (v5:Int) (v6:RR) (v7:Bool) (v8:RR) (v9:Bool) (v10:RR) (v11:Bool) (v12:RR) (v13:Bool) (v14:RR) (v15:Bool) (v16:Bool) (v18:Bool) (v20:Bool) (v22:Bool) (v24:Bool) (v26:Int) (v27:Bool) (v29:Int) (v30:Int) (v31:Bool) (v33:Int) (v34:Bool) (v36:Int) (v37:Int) (v38:Int) (v39:Bool) (v41:Bool) (v43:Bool) (v45:Int) (v46:Bool) (v49:Int) (v50:Bool) (e1:(true)=v1) (e2:(rq (madeR l.1))=v2) (e3:(rq (madeR l.2.1))=v3) (e4:(rq (madeR l.2.2))=v4) (e5:(cmpO (qq v2) (qq v3))=v5) (e6:(rq (subR (qq v2) (qq v3)))=v6) (e7:((subR (qq v2) (qq v3)).isSome)=v7) (e8:(rq (addR (qq v2) (qq v4)))=v8) (e9:((addR (qq v2) (qq v4)).isSome)=v9) (e10:(rq (addR (qq v3) (qq v4)))=v10) (e11:((addR (qq v3) (qq v4)).isSome)=v11) (e12:(rq (mulR (qq v2) (qq v4)))=v12) (e13:((mulR (qq v2) (qq v4)).isSome)=v13) (e14:(rq (mulR (qq v3) (qq v4)))=v14) (e15:((mulR (qq v3) (qq v4)).isSome)=v15) (e16:(!v7)=v16) (e18:(!v9)=v18) (e20:(!v11)=v20) (e22:(!v13)=v22) (e24:(!v15)=v24) (e26:(sgX v6.1 v6.2)=v26) (e27:((v26 != v5))=v27) (e29:(cmpO (qq v3) (qq v2))=v29) (e30:(IntKind.i64.wrap (0 - v5))=v30) (e31:((v29 != v30))=v31) (e33:(cmpO (qq v8) (qq v10))=v33) (e34:((v33 != v5))=v34) (e36:(cmpO (qq v12) (qq v14))=v36) (e37:(sgX v4.1 v4.2)=v37) (e38:(IntKind.i64.wrap (v5*v37))=v38) (e39:((v36 != v38))=v39) (e41:((v5 == (0:Int)))=v41) (e43:(decide (v5≤(0:Int)))=v43) (e45:(cmpO (qq v3) (qq v4))=v45) (e46:(decide (v45≤(0:Int)))=v46) (e49:(cmpO (qq v2) (qq v2))=v49) (e50:((v49 == (0:Int)))=v50) (h17:v16=false) (h19:v18=false) (h21:v20=false) (h23:v22=false) (h25:v24=false) (h28:v27=false) (h32:v31=false) (h35:v34=false) (h40:v39=false) (h42:v41=false) (h44:v43=true) (h47:v46=false) (h48:v1=true):Fun (KN w0) Tryz.prog 5 [.o (.g [pLs cI l.1,pLs cI l.2.1,pLs cI l.2.2])] (.o (.c (pB v50))):=
 zi (zl (F:=FL (pLs cI l.1::pLs cI l.2.1::pLs cI l.2.2::pB v1::pB v2.1.1::pD v2.1.2::pB v2.2.1::pD v2.2.2::pB v3.1.1::pD v3.1.2::pB v3.2.1::pD v3.2.2::pB v4.1.1::pD v4.1.2::pB v4.2.1::pD v4.2.2::pI v5::pB v6.1.1::pD v6.1.2::pB v6.2.1::pD v6.2.2::pB v7::pB v8.1.1::pD v8.1.2::pB v8.2.1::pD v8.2.2::pB v9::pB v10.1.1::pD v10.1.2::pB v10.2.1::pD v10.2.2::pB v11::pB v12.1.1::pD v12.1.2::pB v12.2.1::pD v12.2.2::pB v13::pB v14.1.1::pD v14.1.2::pB v14.2.1::pD v14.2.2::pB v15::pB v16::pB v18::pB v20::pB v22::pB v24::pI v26::pB v27::pI v29::pI v30::pB v31::pI v33::pB v34::pI v36::pI v37::pI v38::pB v39::pB v41::pB v43::pI v45::pB v46::pI v49::pB v50::[]) []) (C:=((1000002,.call ⟨10,[],[],.o (.c (.h 3)),[]⟩) ::
  (1000006,.call ⟨12,[.o (.c (.h 0))],[],.o (.g [.h 4,.h 5,.h 6,.h 7]),[]⟩) ::
  (1000009,.call ⟨12,[.o (.c (.h 1))],[],.o (.g [.h 8,.h 9,.h 10,.h 11]),[]⟩) ::
  (1000012,.call ⟨12,[.o (.c (.h 2))],[],.o (.g [.h 12,.h 13,.h 14,.h 15]),[]⟩) ::
  (1000021,.call ⟨22,[.o (.g [.h 4,.h 5,.h 6,.h 7]),.o (.g [.h 8,.h 9,.h 10,.h 11])],[],.o (.c (.h 16)),[]⟩) ::
  (1000025,.call ⟨15,[.o (.g [.h 4,.h 5,.h 6,.h 7]),.o (.g [.h 8,.h 9,.h 10,.h 11])],[],.t [.g [.h 17,.h 18,.h 19,.h 20],.c (.h 21)],[]⟩) ::
  (1000034,.call ⟨13,[.o (.g [.h 4,.h 5,.h 6,.h 7]),.o (.g [.h 12,.h 13,.h 14,.h 15])],[],.t [.g [.h 22,.h 23,.h 24,.h 25],.c (.h 26)],[]⟩) ::
  (1000043,.call ⟨13,[.o (.g [.h 8,.h 9,.h 10,.h 11]),.o (.g [.h 12,.h 13,.h 14,.h 15])],[],.t [.g [.h 27,.h 28,.h 29,.h 30],.c (.h 31)],[]⟩) ::
  (1000052,.call ⟨18,[.o (.g [.h 4,.h 5,.h 6,.h 7]),.o (.g [.h 12,.h 13,.h 14,.h 15])],[],.t [.g [.h 32,.h 33,.h 34,.h 35],.c (.h 36)],[]⟩) ::
  (1000061,.call ⟨18,[.o (.g [.h 8,.h 9,.h 10,.h 11]),.o (.g [.h 12,.h 13,.h 14,.h 15])],[],.t [.g [.h 37,.h 38,.h 39,.h 40],.c (.h 41)],[]⟩) ::
  (1000069,.un .not (LF (.h 21)) (LF (.h 42))) ::
  (10042,.fb 42 false) ::
  (1000072,.un .not (LF (.h 26)) (LF (.h 43))) ::
  (10043,.fb 43 false) ::
  (1000076,.un .not (LF (.h 31)) (LF (.h 44))) ::
  (10044,.fb 44 false) ::
  (1000080,.un .not (LF (.h 36)) (LF (.h 45))) ::
  (10045,.fb 45 false) ::
  (1000084,.un .not (LF (.h 41)) (LF (.h 46))) ::
  (10046,.fb 46 false) ::
  (1000088,.call ⟨26,[.o (.g [.h 17,.h 18,.h 19,.h 20])],[],.o (.c (.h 47)),[]⟩) ::
  (1000090,.bin .neq 3 (LF (.h 47)) (LF (.h 16)) (LF (.h 48))) ::
  (10048,.fb 48 false) ::
  (1000095,.call ⟨22,[.o (.g [.h 8,.h 9,.h 10,.h 11]),.o (.g [.h 4,.h 5,.h 6,.h 7])],[],.o (.c (.h 49)),[]⟩) ::
  (1000097,.un .neg (LF (.h 16)) (LF (.h 50))) ::
  (1000098,.bin .neq 3 (LF (.h 49)) (LF (.h 50)) (LF (.h 51))) ::
  (10051,.fb 51 false) ::
  (1000103,.call ⟨22,[.o (.g [.h 22,.h 23,.h 24,.h 25]),.o (.g [.h 27,.h 28,.h 29,.h 30])],[],.o (.c (.h 52)),[]⟩) ::
  (1000105,.bin .neq 3 (LF (.h 52)) (LF (.h 16)) (LF (.h 53))) ::
  (10053,.fb 53 false) ::
  (1000110,.call ⟨22,[.o (.g [.h 32,.h 33,.h 34,.h 35]),.o (.g [.h 37,.h 38,.h 39,.h 40])],[],.o (.c (.h 54)),[]⟩) ::
  (1000113,.call ⟨26,[.o (.g [.h 12,.h 13,.h 14,.h 15])],[],.o (.c (.h 55)),[]⟩) ::
  (1000114,.bin .mul 3 (LF (.h 16)) (LF (.h 55)) (LF (.h 56))) ::
  (1000115,.bin .neq 3 (LF (.h 54)) (LF (.h 56)) (LF (.h 57))) ::
  (10057,.fb 57 false) ::
  (1000118,.bin .eql 3 (LF (.h 16)) (LF (.k (.int .i64 0))) (LF (.h 58))) ::
  (10058,.fb 58 false) ::
  (1000127,.bin .leq 3 (LF (.h 16)) (LF (.k (.int .i64 0))) (LF (.h 59))) ::
  (10059,.fb 59 true) ::
  (1000131,.call ⟨22,[.o (.g [.h 8,.h 9,.h 10,.h 11]),.o (.g [.h 12,.h 13,.h 14,.h 15])],[],.o (.c (.h 60)),[]⟩) ::
  (1000132,.bin .leq 3 (LF (.h 60)) (LF (.k (.int .i64 0))) (LF (.h 61))) ::
  (10061,.fb 61 false) ::
  (10003,.fb 3 true) ::
  (1000145,.call ⟨22,[.o (.g [.h 4,.h 5,.h 6,.h 7]),.o (.g [.h 4,.h 5,.h 6,.h 7])],[],.o (.c (.h 62)),[]⟩) ::
  (1000146,.bin .eql 3 (LF (.h 62)) (LF (.k (.int .i64 0))) (LF (.h 63)))::[]:List (Nat×Ent))) (k:=⟨5,[.o (.g [.h 0,.h 1,.h 2])],[],.o (.c (.h 63)),[]⟩) 0 (zm ⟨(zC zE),(zC zE),(zC zE),za rfl,za rfl,ze,za rfl,ze,za rfl,ze,za rfl,ze,za rfl,ze,za rfl,ze,za rfl,za rfl,ze,za rfl,ze,za rfl,za rfl,ze,za rfl,ze,za rfl,za rfl,ze,za rfl,ze,za rfl,za rfl,ze,za rfl,ze,za rfl,za rfl,ze,za rfl,ze,za rfl,za rfl,za rfl,za rfl,za rfl,za rfl,za rfl,za rfl,za rfl,za rfl,za rfl,za rfl,za rfl,za rfl,za rfl,za rfl,za rfl,za rfl,za rfl,za rfl,za rfl,za rfl,za rfl,trivial⟩) ⟨zc (qE hM hTS  v1 e1) rfl rfl rfl rfl,
  zc (qL l.1 v2 e2) rfl rfl rfl rfl,
  zc (qL l.2.1 v3 e3) rfl rfl rfl rfl,
  zc (qL l.2.2 v4 e4) rfl rfl rfl rfl,
  zc (zS v2 v3 v5 e5) rfl rfl rfl rfl,
  zc (zcN v2 v3 v6 v7 e6 e7) rfl rfl rfl rfl,
  zc (zao v2 v4 v8 v9 e8 e9) rfl rfl rfl rfl,
  zc (zao v3 v4 v10 v11 e10 e11) rfl rfl rfl rfl,
  zc (zap v2 v4 v12 v13 e12 e13) rfl rfl rfl rfl,
  zc (zap v3 v4 v14 v15 e14 e15) rfl rfl rfl rfl,
  e_un (zb rfl) (zb rfl) (fun W=>by rw [← e16];exact r_not W),
  e_fb (show pV (.bool v16)=_ by rw [h17]),
  e_un (zb rfl) (zb rfl) (fun W=>by rw [← e18];exact r_not W),
  e_fb (show pV (.bool v18)=_ by rw [h19]),
  e_un (zb rfl) (zb rfl) (fun W=>by rw [← e20];exact r_not W),
  e_fb (show pV (.bool v20)=_ by rw [h21]),
  e_un (zb rfl) (zb rfl) (fun W=>by rw [← e22];exact r_not W),
  e_fb (show pV (.bool v22)=_ by rw [h23]),
  e_un (zb rfl) (zb rfl) (fun W=>by rw [← e24];exact r_not W),
  e_fb (show pV (.bool v24)=_ by rw [h25]),
  zc (qS v6 v26 e26) rfl rfl rfl rfl,
  e_bin (zb rfl) (zb rfl) (zb rfl) (r_cmp (congrArg some e27)),
  e_fb (show pV (.bool v27)=_ by rw [h28]),
  zc (zS v3 v2 v29 e29) rfl rfl rfl rfl,
  e_un (zb rfl) (zb rfl) (fun W=>by rw [← e30];exact r_neg W),
  e_bin (zb rfl) (zb rfl) (zb rfl) (r_cmp (congrArg some e31)),
  e_fb (show pV (.bool v31)=_ by rw [h32]),
  zc (zS v8 v10 v33 e33) rfl rfl rfl rfl,
  e_bin (zb rfl) (zb rfl) (zb rfl) (r_cmp (congrArg some e34)),
  e_fb (show pV (.bool v34)=_ by rw [h35]),
  zc (zS v12 v14 v36 e36) rfl rfl rfl rfl,
  zc (qS v4 v37 e37) rfl rfl rfl rfl,
  e_bin (zb rfl) (zb rfl) (zb rfl) (r_ar (congrArg some e38)),
  e_bin (zb rfl) (zb rfl) (zb rfl) (r_cmp (congrArg some e39)),
  e_fb (show pV (.bool v39)=_ by rw [h40]),
  e_bin (zb rfl) zg (zb rfl) (r_cmp (congrArg some e41)),
  e_fb (show pV (.bool v41)=_ by rw [h42]),
  e_bin (zb rfl) zg (zb rfl) (r_cmp (congrArg some e43)),
  e_fb (show pV (.bool v43)=_ by rw [h44]),
  zc (zS v3 v4 v45 e45) rfl rfl rfl rfl,
  e_bin (zb rfl) zg (zb rfl) (r_cmp (congrArg some e46)),
  e_fb (show pV (.bool v46)=_ by rw [h47]),
  e_fb (show pV (.bool v1)=_ by rw [h48]),
  zc (zS v2 v2 v49 e49) rfl rfl rfl rfl,
  e_bin (zb rfl) zg (zb rfl) (r_cmp (congrArg some e50)),
  trivial⟩ mixed (by kernel_rfl)) rfl rfl rfl rfl
theorem zko {w0:World} (l:(List Int×List Int×List Int)) (hM:∀W,Below w0.heap.size w0 W→MaxT W) (hTS:∀W,Below w0.heap.size w0 W→PowT w0.heap.size W∧SynT w0.heap.size W) (v1:Bool) (v2:RR) (v3:RR) (v4:RR) (v5:Int) (v6:RR) (v7:Bool) (v8:RR) (v9:Bool) (v10:RR) (v11:Bool) (v12:RR) (v13:Bool) (v14:RR) (v15:Bool) (v16:Bool) (v18:Bool) (v20:Bool) (v22:Bool) (v24:Bool) (v26:Int) (v27:Bool) (v29:Int) (v30:Int) (v31:Bool) (v33:Int) (v34:Bool) (v36:Int) (v37:Int) (v38:Int) (v39:Bool) (v41:Bool) (v43:Bool) (v46:Int) (v47:Bool) (e1:(true)=v1) (e2:(rq (madeR l.1))=v2) (e3:(rq (madeR l.2.1))=v3) (e4:(rq (madeR l.2.2))=v4) (e5:(cmpO (qq v2) (qq v3))=v5) (e6:(rq (subR (qq v2) (qq v3)))=v6) (e7:((subR (qq v2) (qq v3)).isSome)=v7) (e8:(rq (addR (qq v2) (qq v4)))=v8) (e9:((addR (qq v2) (qq v4)).isSome)=v9) (e10:(rq (addR (qq v3) (qq v4)))=v10) (e11:((addR (qq v3) (qq v4)).isSome)=v11) (e12:(rq (mulR (qq v2) (qq v4)))=v12) (e13:((mulR (qq v2) (qq v4)).isSome)=v13) (e14:(rq (mulR (qq v3) (qq v4)))=v14) (e15:((mulR (qq v3) (qq v4)).isSome)=v15) (e16:(!v7)=v16) (e18:(!v9)=v18) (e20:(!v11)=v20) (e22:(!v13)=v22) (e24:(!v15)=v24) (e26:(sgX v6.1 v6.2)=v26) (e27:((v26 != v5))=v27) (e29:(cmpO (qq v3) (qq v2))=v29) (e30:(IntKind.i64.wrap (0 - v5))=v30) (e31:((v29 != v30))=v31) (e33:(cmpO (qq v8) (qq v10))=v33) (e34:((v33 != v5))=v34) (e36:(cmpO (qq v12) (qq v14))=v36) (e37:(sgX v4.1 v4.2)=v37) (e38:(IntKind.i64.wrap (v5*v37))=v38) (e39:((v36 != v38))=v39) (e41:((v5 == (0:Int)))=v41) (e43:(decide (v5≤(0:Int)))=v43) (e46:(cmpO (qq v2) (qq v2))=v46) (e47:((v46 == (0:Int)))=v47) (h17:v16=false) (h19:v18=false) (h21:v20=false) (h23:v22=false) (h25:v24=false) (h28:v27=false) (h32:v31=false) (h35:v34=false) (h40:v39=false) (h42:v41=false) (h44:v43=false) (h45:v1=true):Fun (KN w0) Tryz.prog 5 [.o (.g [pLs cI l.1,pLs cI l.2.1,pLs cI l.2.2])] (.o (.c (pB v47))):=
 zi (zl (F:=FL (pLs cI l.1::pLs cI l.2.1::pLs cI l.2.2::pB v1::pB v2.1.1::pD v2.1.2::pB v2.2.1::pD v2.2.2::pB v3.1.1::pD v3.1.2::pB v3.2.1::pD v3.2.2::pB v4.1.1::pD v4.1.2::pB v4.2.1::pD v4.2.2::pI v5::pB v6.1.1::pD v6.1.2::pB v6.2.1::pD v6.2.2::pB v7::pB v8.1.1::pD v8.1.2::pB v8.2.1::pD v8.2.2::pB v9::pB v10.1.1::pD v10.1.2::pB v10.2.1::pD v10.2.2::pB v11::pB v12.1.1::pD v12.1.2::pB v12.2.1::pD v12.2.2::pB v13::pB v14.1.1::pD v14.1.2::pB v14.2.1::pD v14.2.2::pB v15::pB v16::pB v18::pB v20::pB v22::pB v24::pI v26::pB v27::pI v29::pI v30::pB v31::pI v33::pB v34::pI v36::pI v37::pI v38::pB v39::pB v41::pB v43::pI v46::pB v47::[]) []) (C:=((1000002,.call ⟨10,[],[],.o (.c (.h 3)),[]⟩) ::
  (1000006,.call ⟨12,[.o (.c (.h 0))],[],.o (.g [.h 4,.h 5,.h 6,.h 7]),[]⟩) ::
  (1000009,.call ⟨12,[.o (.c (.h 1))],[],.o (.g [.h 8,.h 9,.h 10,.h 11]),[]⟩) ::
  (1000012,.call ⟨12,[.o (.c (.h 2))],[],.o (.g [.h 12,.h 13,.h 14,.h 15]),[]⟩) ::
  (1000021,.call ⟨22,[.o (.g [.h 4,.h 5,.h 6,.h 7]),.o (.g [.h 8,.h 9,.h 10,.h 11])],[],.o (.c (.h 16)),[]⟩) ::
  (1000025,.call ⟨15,[.o (.g [.h 4,.h 5,.h 6,.h 7]),.o (.g [.h 8,.h 9,.h 10,.h 11])],[],.t [.g [.h 17,.h 18,.h 19,.h 20],.c (.h 21)],[]⟩) ::
  (1000034,.call ⟨13,[.o (.g [.h 4,.h 5,.h 6,.h 7]),.o (.g [.h 12,.h 13,.h 14,.h 15])],[],.t [.g [.h 22,.h 23,.h 24,.h 25],.c (.h 26)],[]⟩) ::
  (1000043,.call ⟨13,[.o (.g [.h 8,.h 9,.h 10,.h 11]),.o (.g [.h 12,.h 13,.h 14,.h 15])],[],.t [.g [.h 27,.h 28,.h 29,.h 30],.c (.h 31)],[]⟩) ::
  (1000052,.call ⟨18,[.o (.g [.h 4,.h 5,.h 6,.h 7]),.o (.g [.h 12,.h 13,.h 14,.h 15])],[],.t [.g [.h 32,.h 33,.h 34,.h 35],.c (.h 36)],[]⟩) ::
  (1000061,.call ⟨18,[.o (.g [.h 8,.h 9,.h 10,.h 11]),.o (.g [.h 12,.h 13,.h 14,.h 15])],[],.t [.g [.h 37,.h 38,.h 39,.h 40],.c (.h 41)],[]⟩) ::
  (1000069,.un .not (LF (.h 21)) (LF (.h 42))) ::
  (10042,.fb 42 false) ::
  (1000072,.un .not (LF (.h 26)) (LF (.h 43))) ::
  (10043,.fb 43 false) ::
  (1000076,.un .not (LF (.h 31)) (LF (.h 44))) ::
  (10044,.fb 44 false) ::
  (1000080,.un .not (LF (.h 36)) (LF (.h 45))) ::
  (10045,.fb 45 false) ::
  (1000084,.un .not (LF (.h 41)) (LF (.h 46))) ::
  (10046,.fb 46 false) ::
  (1000088,.call ⟨26,[.o (.g [.h 17,.h 18,.h 19,.h 20])],[],.o (.c (.h 47)),[]⟩) ::
  (1000090,.bin .neq 3 (LF (.h 47)) (LF (.h 16)) (LF (.h 48))) ::
  (10048,.fb 48 false) ::
  (1000095,.call ⟨22,[.o (.g [.h 8,.h 9,.h 10,.h 11]),.o (.g [.h 4,.h 5,.h 6,.h 7])],[],.o (.c (.h 49)),[]⟩) ::
  (1000097,.un .neg (LF (.h 16)) (LF (.h 50))) ::
  (1000098,.bin .neq 3 (LF (.h 49)) (LF (.h 50)) (LF (.h 51))) ::
  (10051,.fb 51 false) ::
  (1000103,.call ⟨22,[.o (.g [.h 22,.h 23,.h 24,.h 25]),.o (.g [.h 27,.h 28,.h 29,.h 30])],[],.o (.c (.h 52)),[]⟩) ::
  (1000105,.bin .neq 3 (LF (.h 52)) (LF (.h 16)) (LF (.h 53))) ::
  (10053,.fb 53 false) ::
  (1000110,.call ⟨22,[.o (.g [.h 32,.h 33,.h 34,.h 35]),.o (.g [.h 37,.h 38,.h 39,.h 40])],[],.o (.c (.h 54)),[]⟩) ::
  (1000113,.call ⟨26,[.o (.g [.h 12,.h 13,.h 14,.h 15])],[],.o (.c (.h 55)),[]⟩) ::
  (1000114,.bin .mul 3 (LF (.h 16)) (LF (.h 55)) (LF (.h 56))) ::
  (1000115,.bin .neq 3 (LF (.h 54)) (LF (.h 56)) (LF (.h 57))) ::
  (10057,.fb 57 false) ::
  (1000118,.bin .eql 3 (LF (.h 16)) (LF (.k (.int .i64 0))) (LF (.h 58))) ::
  (10058,.fb 58 false) ::
  (1000127,.bin .leq 3 (LF (.h 16)) (LF (.k (.int .i64 0))) (LF (.h 59))) ::
  (10059,.fb 59 false) ::
  (10003,.fb 3 true) ::
  (1000145,.call ⟨22,[.o (.g [.h 4,.h 5,.h 6,.h 7]),.o (.g [.h 4,.h 5,.h 6,.h 7])],[],.o (.c (.h 60)),[]⟩) ::
  (1000146,.bin .eql 3 (LF (.h 60)) (LF (.k (.int .i64 0))) (LF (.h 61)))::[]:List (Nat×Ent))) (k:=⟨5,[.o (.g [.h 0,.h 1,.h 2])],[],.o (.c (.h 61)),[]⟩) 0 (zm ⟨(zC zE),(zC zE),(zC zE),za rfl,za rfl,ze,za rfl,ze,za rfl,ze,za rfl,ze,za rfl,ze,za rfl,ze,za rfl,za rfl,ze,za rfl,ze,za rfl,za rfl,ze,za rfl,ze,za rfl,za rfl,ze,za rfl,ze,za rfl,za rfl,ze,za rfl,ze,za rfl,za rfl,ze,za rfl,ze,za rfl,za rfl,za rfl,za rfl,za rfl,za rfl,za rfl,za rfl,za rfl,za rfl,za rfl,za rfl,za rfl,za rfl,za rfl,za rfl,za rfl,za rfl,za rfl,za rfl,za rfl,trivial⟩) ⟨zc (qE hM hTS  v1 e1) rfl rfl rfl rfl,
  zc (qL l.1 v2 e2) rfl rfl rfl rfl,
  zc (qL l.2.1 v3 e3) rfl rfl rfl rfl,
  zc (qL l.2.2 v4 e4) rfl rfl rfl rfl,
  zc (zS v2 v3 v5 e5) rfl rfl rfl rfl,
  zc (zcN v2 v3 v6 v7 e6 e7) rfl rfl rfl rfl,
  zc (zao v2 v4 v8 v9 e8 e9) rfl rfl rfl rfl,
  zc (zao v3 v4 v10 v11 e10 e11) rfl rfl rfl rfl,
  zc (zap v2 v4 v12 v13 e12 e13) rfl rfl rfl rfl,
  zc (zap v3 v4 v14 v15 e14 e15) rfl rfl rfl rfl,
  e_un (zb rfl) (zb rfl) (fun W=>by rw [← e16];exact r_not W),
  e_fb (show pV (.bool v16)=_ by rw [h17]),
  e_un (zb rfl) (zb rfl) (fun W=>by rw [← e18];exact r_not W),
  e_fb (show pV (.bool v18)=_ by rw [h19]),
  e_un (zb rfl) (zb rfl) (fun W=>by rw [← e20];exact r_not W),
  e_fb (show pV (.bool v20)=_ by rw [h21]),
  e_un (zb rfl) (zb rfl) (fun W=>by rw [← e22];exact r_not W),
  e_fb (show pV (.bool v22)=_ by rw [h23]),
  e_un (zb rfl) (zb rfl) (fun W=>by rw [← e24];exact r_not W),
  e_fb (show pV (.bool v24)=_ by rw [h25]),
  zc (qS v6 v26 e26) rfl rfl rfl rfl,
  e_bin (zb rfl) (zb rfl) (zb rfl) (r_cmp (congrArg some e27)),
  e_fb (show pV (.bool v27)=_ by rw [h28]),
  zc (zS v3 v2 v29 e29) rfl rfl rfl rfl,
  e_un (zb rfl) (zb rfl) (fun W=>by rw [← e30];exact r_neg W),
  e_bin (zb rfl) (zb rfl) (zb rfl) (r_cmp (congrArg some e31)),
  e_fb (show pV (.bool v31)=_ by rw [h32]),
  zc (zS v8 v10 v33 e33) rfl rfl rfl rfl,
  e_bin (zb rfl) (zb rfl) (zb rfl) (r_cmp (congrArg some e34)),
  e_fb (show pV (.bool v34)=_ by rw [h35]),
  zc (zS v12 v14 v36 e36) rfl rfl rfl rfl,
  zc (qS v4 v37 e37) rfl rfl rfl rfl,
  e_bin (zb rfl) (zb rfl) (zb rfl) (r_ar (congrArg some e38)),
  e_bin (zb rfl) (zb rfl) (zb rfl) (r_cmp (congrArg some e39)),
  e_fb (show pV (.bool v39)=_ by rw [h40]),
  e_bin (zb rfl) zg (zb rfl) (r_cmp (congrArg some e41)),
  e_fb (show pV (.bool v41)=_ by rw [h42]),
  e_bin (zb rfl) zg (zb rfl) (r_cmp (congrArg some e43)),
  e_fb (show pV (.bool v43)=_ by rw [h44]),
  e_fb (show pV (.bool v1)=_ by rw [h45]),
  zc (zS v2 v2 v46 e46) rfl rfl rfl rfl,
  e_bin (zb rfl) zg (zb rfl) (r_cmp (congrArg some e47)),
  trivial⟩ mixed (by kernel_rfl)) rfl rfl rfl rfl
theorem zaS (l:(List Int×List Int×List Int))  :((!((subR (qq (rq (madeR l.1))) (qq (rq (madeR l.2.1)))).isSome)))=false:=by
 obtain ⟨p,q,z,ep,eq,ez,hp,hq,hz⟩:=zM l
 have k1:=qq_sz hp (by decide)
 have k2:=qq_sz hq (by decide)
 have k3:=qq_sz hz (by decide)
 have a1:=zy hp hz (by decide)
 have a2:=zy hq hz (by decide)
 have a3:=zK hp hq (by decide)
 have a4:=zA hp hz (by decide)
 have a5:=zA hq hz (by decide)
 have k4:=qq_sz (hp.add hz) (by decide)
 have k5:=qq_sz (hq.add hz) (by decide)
 have k6:=qq_sz (hp.mul hz) (by decide)
 have k7:=qq_sz (hq.mul hz) (by decide)
 have g1:=sg_sz (hp.sub hq) (by decide)
 have g2:=sg_sz hz (by decide)
 have c0:∀a b:Rat,cmpO (some a) (some b)=cmpQ a b:=fun _ _=>rfl
 have b1:=zp p q
 have b2:=zp z 0
 have w1:=wr64 (n:=0 - cmpQ p q) (by omega)
 have b3:-1≤cmpQ p q*cmpQ z 0∧cmpQ p q*cmpQ z 0≤1:=by
  rcases zv p q with ⟨_,e⟩ | ⟨_,e⟩ | ⟨_,e⟩<;>rw [e]<;>omega
 have w2:=wr64 (n:=cmpQ p q*cmpQ z 0) (by omega)
 have w3:cmpQ q p=0 - cmpQ p q:=by rw [zW (p:=p) (q:=q)];omega
 have tr:=@zQ p q z
 have e0:=@qc p q
 simp only [ep,eq,ez,k1,k2,k3,a1,a2,a3,a4,a5,k4,k5,k6,k7,g1,g2,c0,qj,qh,qi,zG,w1,w2,w3,Option.isSome_some,bne_self_eq_false,Bool.not_true,beq_self_eq_true,decide_eq_true_eq,decide_eq_false_iff_not,beq_iff_eq,Bool.not_eq_false',beq_eq_false_iff_ne]
 try (first | (rw [e0 (by assumption)];done) | (rw [e0 (by assumption)] at *;omega) | (have:=tr (by assumption) (by assumption);omega) | omega)
theorem zaT (l:(List Int×List Int×List Int))  :((!((addR (qq (rq (madeR l.1))) (qq (rq (madeR l.2.2)))).isSome)))=false:=by
 obtain ⟨p,q,z,ep,eq,ez,hp,hq,hz⟩:=zM l
 have k1:=qq_sz hp (by decide)
 have k2:=qq_sz hq (by decide)
 have k3:=qq_sz hz (by decide)
 have a1:=zy hp hz (by decide)
 have a2:=zy hq hz (by decide)
 have a3:=zK hp hq (by decide)
 have a4:=zA hp hz (by decide)
 have a5:=zA hq hz (by decide)
 have k4:=qq_sz (hp.add hz) (by decide)
 have k5:=qq_sz (hq.add hz) (by decide)
 have k6:=qq_sz (hp.mul hz) (by decide)
 have k7:=qq_sz (hq.mul hz) (by decide)
 have g1:=sg_sz (hp.sub hq) (by decide)
 have g2:=sg_sz hz (by decide)
 have c0:∀a b:Rat,cmpO (some a) (some b)=cmpQ a b:=fun _ _=>rfl
 have b1:=zp p q
 have b2:=zp z 0
 have w1:=wr64 (n:=0 - cmpQ p q) (by omega)
 have b3:-1≤cmpQ p q*cmpQ z 0∧cmpQ p q*cmpQ z 0≤1:=by
  rcases zv p q with ⟨_,e⟩ | ⟨_,e⟩ | ⟨_,e⟩<;>rw [e]<;>omega
 have w2:=wr64 (n:=cmpQ p q*cmpQ z 0) (by omega)
 have w3:cmpQ q p=0 - cmpQ p q:=by rw [zW (p:=p) (q:=q)];omega
 have tr:=@zQ p q z
 have e0:=@qc p q
 simp only [ep,eq,ez,k1,k2,k3,a1,a2,a3,a4,a5,k4,k5,k6,k7,g1,g2,c0,qj,qh,qi,zG,w1,w2,w3,Option.isSome_some,bne_self_eq_false,Bool.not_true,beq_self_eq_true,decide_eq_true_eq,decide_eq_false_iff_not,beq_iff_eq,Bool.not_eq_false',beq_eq_false_iff_ne]
 try (first | (rw [e0 (by assumption)];done) | (rw [e0 (by assumption)] at *;omega) | (have:=tr (by assumption) (by assumption);omega) | omega)
theorem zaU (l:(List Int×List Int×List Int))  :((!((addR (qq (rq (madeR l.2.1))) (qq (rq (madeR l.2.2)))).isSome)))=false:=by
 obtain ⟨p,q,z,ep,eq,ez,hp,hq,hz⟩:=zM l
 have k1:=qq_sz hp (by decide)
 have k2:=qq_sz hq (by decide)
 have k3:=qq_sz hz (by decide)
 have a1:=zy hp hz (by decide)
 have a2:=zy hq hz (by decide)
 have a3:=zK hp hq (by decide)
 have a4:=zA hp hz (by decide)
 have a5:=zA hq hz (by decide)
 have k4:=qq_sz (hp.add hz) (by decide)
 have k5:=qq_sz (hq.add hz) (by decide)
 have k6:=qq_sz (hp.mul hz) (by decide)
 have k7:=qq_sz (hq.mul hz) (by decide)
 have g1:=sg_sz (hp.sub hq) (by decide)
 have g2:=sg_sz hz (by decide)
 have c0:∀a b:Rat,cmpO (some a) (some b)=cmpQ a b:=fun _ _=>rfl
 have b1:=zp p q
 have b2:=zp z 0
 have w1:=wr64 (n:=0 - cmpQ p q) (by omega)
 have b3:-1≤cmpQ p q*cmpQ z 0∧cmpQ p q*cmpQ z 0≤1:=by
  rcases zv p q with ⟨_,e⟩ | ⟨_,e⟩ | ⟨_,e⟩<;>rw [e]<;>omega
 have w2:=wr64 (n:=cmpQ p q*cmpQ z 0) (by omega)
 have w3:cmpQ q p=0 - cmpQ p q:=by rw [zW (p:=p) (q:=q)];omega
 have tr:=@zQ p q z
 have e0:=@qc p q
 simp only [ep,eq,ez,k1,k2,k3,a1,a2,a3,a4,a5,k4,k5,k6,k7,g1,g2,c0,qj,qh,qi,zG,w1,w2,w3,Option.isSome_some,bne_self_eq_false,Bool.not_true,beq_self_eq_true,decide_eq_true_eq,decide_eq_false_iff_not,beq_iff_eq,Bool.not_eq_false',beq_eq_false_iff_ne]
 try (first | (rw [e0 (by assumption)];done) | (rw [e0 (by assumption)] at *;omega) | (have:=tr (by assumption) (by assumption);omega) | omega)
theorem zaV (l:(List Int×List Int×List Int))  :((!((mulR (qq (rq (madeR l.1))) (qq (rq (madeR l.2.2)))).isSome)))=false:=by
 obtain ⟨p,q,z,ep,eq,ez,hp,hq,hz⟩:=zM l
 have k1:=qq_sz hp (by decide)
 have k2:=qq_sz hq (by decide)
 have k3:=qq_sz hz (by decide)
 have a1:=zy hp hz (by decide)
 have a2:=zy hq hz (by decide)
 have a3:=zK hp hq (by decide)
 have a4:=zA hp hz (by decide)
 have a5:=zA hq hz (by decide)
 have k4:=qq_sz (hp.add hz) (by decide)
 have k5:=qq_sz (hq.add hz) (by decide)
 have k6:=qq_sz (hp.mul hz) (by decide)
 have k7:=qq_sz (hq.mul hz) (by decide)
 have g1:=sg_sz (hp.sub hq) (by decide)
 have g2:=sg_sz hz (by decide)
 have c0:∀a b:Rat,cmpO (some a) (some b)=cmpQ a b:=fun _ _=>rfl
 have b1:=zp p q
 have b2:=zp z 0
 have w1:=wr64 (n:=0 - cmpQ p q) (by omega)
 have b3:-1≤cmpQ p q*cmpQ z 0∧cmpQ p q*cmpQ z 0≤1:=by
  rcases zv p q with ⟨_,e⟩ | ⟨_,e⟩ | ⟨_,e⟩<;>rw [e]<;>omega
 have w2:=wr64 (n:=cmpQ p q*cmpQ z 0) (by omega)
 have w3:cmpQ q p=0 - cmpQ p q:=by rw [zW (p:=p) (q:=q)];omega
 have tr:=@zQ p q z
 have e0:=@qc p q
 simp only [ep,eq,ez,k1,k2,k3,a1,a2,a3,a4,a5,k4,k5,k6,k7,g1,g2,c0,qj,qh,qi,zG,w1,w2,w3,Option.isSome_some,bne_self_eq_false,Bool.not_true,beq_self_eq_true,decide_eq_true_eq,decide_eq_false_iff_not,beq_iff_eq,Bool.not_eq_false',beq_eq_false_iff_ne]
 try (first | (rw [e0 (by assumption)];done) | (rw [e0 (by assumption)] at *;omega) | (have:=tr (by assumption) (by assumption);omega) | omega)
theorem zaW (l:(List Int×List Int×List Int))  :((!((mulR (qq (rq (madeR l.2.1))) (qq (rq (madeR l.2.2)))).isSome)))=false:=by
 obtain ⟨p,q,z,ep,eq,ez,hp,hq,hz⟩:=zM l
 have k1:=qq_sz hp (by decide)
 have k2:=qq_sz hq (by decide)
 have k3:=qq_sz hz (by decide)
 have a1:=zy hp hz (by decide)
 have a2:=zy hq hz (by decide)
 have a3:=zK hp hq (by decide)
 have a4:=zA hp hz (by decide)
 have a5:=zA hq hz (by decide)
 have k4:=qq_sz (hp.add hz) (by decide)
 have k5:=qq_sz (hq.add hz) (by decide)
 have k6:=qq_sz (hp.mul hz) (by decide)
 have k7:=qq_sz (hq.mul hz) (by decide)
 have g1:=sg_sz (hp.sub hq) (by decide)
 have g2:=sg_sz hz (by decide)
 have c0:∀a b:Rat,cmpO (some a) (some b)=cmpQ a b:=fun _ _=>rfl
 have b1:=zp p q
 have b2:=zp z 0
 have w1:=wr64 (n:=0 - cmpQ p q) (by omega)
 have b3:-1≤cmpQ p q*cmpQ z 0∧cmpQ p q*cmpQ z 0≤1:=by
  rcases zv p q with ⟨_,e⟩ | ⟨_,e⟩ | ⟨_,e⟩<;>rw [e]<;>omega
 have w2:=wr64 (n:=cmpQ p q*cmpQ z 0) (by omega)
 have w3:cmpQ q p=0 - cmpQ p q:=by rw [zW (p:=p) (q:=q)];omega
 have tr:=@zQ p q z
 have e0:=@qc p q
 simp only [ep,eq,ez,k1,k2,k3,a1,a2,a3,a4,a5,k4,k5,k6,k7,g1,g2,c0,qj,qh,qi,zG,w1,w2,w3,Option.isSome_some,bne_self_eq_false,Bool.not_true,beq_self_eq_true,decide_eq_true_eq,decide_eq_false_iff_not,beq_iff_eq,Bool.not_eq_false',beq_eq_false_iff_ne]
 try (first | (rw [e0 (by assumption)];done) | (rw [e0 (by assumption)] at *;omega) | (have:=tr (by assumption) (by assumption);omega) | omega)
theorem zaX (l:(List Int×List Int×List Int))  :((((sgX (rq (subR (qq (rq (madeR l.1))) (qq (rq (madeR l.2.1))))).1 (rq (subR (qq (rq (madeR l.1))) (qq (rq (madeR l.2.1))))).2) != (cmpO (qq (rq (madeR l.1))) (qq (rq (madeR l.2.1)))))))=false:=by
 obtain ⟨p,q,z,ep,eq,ez,hp,hq,hz⟩:=zM l
 have k1:=qq_sz hp (by decide)
 have k2:=qq_sz hq (by decide)
 have k3:=qq_sz hz (by decide)
 have a1:=zy hp hz (by decide)
 have a2:=zy hq hz (by decide)
 have a3:=zK hp hq (by decide)
 have a4:=zA hp hz (by decide)
 have a5:=zA hq hz (by decide)
 have k4:=qq_sz (hp.add hz) (by decide)
 have k5:=qq_sz (hq.add hz) (by decide)
 have k6:=qq_sz (hp.mul hz) (by decide)
 have k7:=qq_sz (hq.mul hz) (by decide)
 have g1:=sg_sz (hp.sub hq) (by decide)
 have g2:=sg_sz hz (by decide)
 have c0:∀a b:Rat,cmpO (some a) (some b)=cmpQ a b:=fun _ _=>rfl
 have b1:=zp p q
 have b2:=zp z 0
 have w1:=wr64 (n:=0 - cmpQ p q) (by omega)
 have b3:-1≤cmpQ p q*cmpQ z 0∧cmpQ p q*cmpQ z 0≤1:=by
  rcases zv p q with ⟨_,e⟩ | ⟨_,e⟩ | ⟨_,e⟩<;>rw [e]<;>omega
 have w2:=wr64 (n:=cmpQ p q*cmpQ z 0) (by omega)
 have w3:cmpQ q p=0 - cmpQ p q:=by rw [zW (p:=p) (q:=q)];omega
 have tr:=@zQ p q z
 have e0:=@qc p q
 simp only [ep,eq,ez,k1,k2,k3,a1,a2,a3,a4,a5,k4,k5,k6,k7,g1,g2,c0,qj,qh,qi,zG,w1,w2,w3,Option.isSome_some,bne_self_eq_false,Bool.not_true,beq_self_eq_true,decide_eq_true_eq,decide_eq_false_iff_not,beq_iff_eq,Bool.not_eq_false',beq_eq_false_iff_ne]
 try (first | (rw [e0 (by assumption)];done) | (rw [e0 (by assumption)] at *;omega) | (have:=tr (by assumption) (by assumption);omega) | omega)
theorem zaY (l:(List Int×List Int×List Int))  :((((cmpO (qq (rq (madeR l.2.1))) (qq (rq (madeR l.1)))) != (IntKind.i64.wrap (0 - (cmpO (qq (rq (madeR l.1))) (qq (rq (madeR l.2.1)))))))))=false:=by
 obtain ⟨p,q,z,ep,eq,ez,hp,hq,hz⟩:=zM l
 have k1:=qq_sz hp (by decide)
 have k2:=qq_sz hq (by decide)
 have k3:=qq_sz hz (by decide)
 have a1:=zy hp hz (by decide)
 have a2:=zy hq hz (by decide)
 have a3:=zK hp hq (by decide)
 have a4:=zA hp hz (by decide)
 have a5:=zA hq hz (by decide)
 have k4:=qq_sz (hp.add hz) (by decide)
 have k5:=qq_sz (hq.add hz) (by decide)
 have k6:=qq_sz (hp.mul hz) (by decide)
 have k7:=qq_sz (hq.mul hz) (by decide)
 have g1:=sg_sz (hp.sub hq) (by decide)
 have g2:=sg_sz hz (by decide)
 have c0:∀a b:Rat,cmpO (some a) (some b)=cmpQ a b:=fun _ _=>rfl
 have b1:=zp p q
 have b2:=zp z 0
 have w1:=wr64 (n:=0 - cmpQ p q) (by omega)
 have b3:-1≤cmpQ p q*cmpQ z 0∧cmpQ p q*cmpQ z 0≤1:=by
  rcases zv p q with ⟨_,e⟩ | ⟨_,e⟩ | ⟨_,e⟩<;>rw [e]<;>omega
 have w2:=wr64 (n:=cmpQ p q*cmpQ z 0) (by omega)
 have w3:cmpQ q p=0 - cmpQ p q:=by rw [zW (p:=p) (q:=q)];omega
 have tr:=@zQ p q z
 have e0:=@qc p q
 simp only [ep,eq,ez,k1,k2,k3,a1,a2,a3,a4,a5,k4,k5,k6,k7,g1,g2,c0,qj,qh,qi,zG,w1,w2,w3,Option.isSome_some,bne_self_eq_false,Bool.not_true,beq_self_eq_true,decide_eq_true_eq,decide_eq_false_iff_not,beq_iff_eq,Bool.not_eq_false',beq_eq_false_iff_ne]
 try (first | (rw [e0 (by assumption)];done) | (rw [e0 (by assumption)] at *;omega) | (have:=tr (by assumption) (by assumption);omega) | omega)
theorem zaZ (l:(List Int×List Int×List Int))  :((((cmpO (qq (rq (addR (qq (rq (madeR l.1))) (qq (rq (madeR l.2.2)))))) (qq (rq (addR (qq (rq (madeR l.2.1))) (qq (rq (madeR l.2.2))))))) != (cmpO (qq (rq (madeR l.1))) (qq (rq (madeR l.2.1)))))))=false:=by
 obtain ⟨p,q,z,ep,eq,ez,hp,hq,hz⟩:=zM l
 have k1:=qq_sz hp (by decide)
 have k2:=qq_sz hq (by decide)
 have k3:=qq_sz hz (by decide)
 have a1:=zy hp hz (by decide)
 have a2:=zy hq hz (by decide)
 have a3:=zK hp hq (by decide)
 have a4:=zA hp hz (by decide)
 have a5:=zA hq hz (by decide)
 have k4:=qq_sz (hp.add hz) (by decide)
 have k5:=qq_sz (hq.add hz) (by decide)
 have k6:=qq_sz (hp.mul hz) (by decide)
 have k7:=qq_sz (hq.mul hz) (by decide)
 have g1:=sg_sz (hp.sub hq) (by decide)
 have g2:=sg_sz hz (by decide)
 have c0:∀a b:Rat,cmpO (some a) (some b)=cmpQ a b:=fun _ _=>rfl
 have b1:=zp p q
 have b2:=zp z 0
 have w1:=wr64 (n:=0 - cmpQ p q) (by omega)
 have b3:-1≤cmpQ p q*cmpQ z 0∧cmpQ p q*cmpQ z 0≤1:=by
  rcases zv p q with ⟨_,e⟩ | ⟨_,e⟩ | ⟨_,e⟩<;>rw [e]<;>omega
 have w2:=wr64 (n:=cmpQ p q*cmpQ z 0) (by omega)
 have w3:cmpQ q p=0 - cmpQ p q:=by rw [zW (p:=p) (q:=q)];omega
 have tr:=@zQ p q z
 have e0:=@qc p q
 simp only [ep,eq,ez,k1,k2,k3,a1,a2,a3,a4,a5,k4,k5,k6,k7,g1,g2,c0,qj,qh,qi,zG,w1,w2,w3,Option.isSome_some,bne_self_eq_false,Bool.not_true,beq_self_eq_true,decide_eq_true_eq,decide_eq_false_iff_not,beq_iff_eq,Bool.not_eq_false',beq_eq_false_iff_ne]
 try (first | (rw [e0 (by assumption)];done) | (rw [e0 (by assumption)] at *;omega) | (have:=tr (by assumption) (by assumption);omega) | omega)
theorem za0 (l:(List Int×List Int×List Int))  :((((cmpO (qq (rq (mulR (qq (rq (madeR l.1))) (qq (rq (madeR l.2.2)))))) (qq (rq (mulR (qq (rq (madeR l.2.1))) (qq (rq (madeR l.2.2))))))) != (IntKind.i64.wrap ((cmpO (qq (rq (madeR l.1))) (qq (rq (madeR l.2.1))))*(sgX (rq (madeR l.2.2)).1 (rq (madeR l.2.2)).2))))))=false:=by
 obtain ⟨p,q,z,ep,eq,ez,hp,hq,hz⟩:=zM l
 have k1:=qq_sz hp (by decide)
 have k2:=qq_sz hq (by decide)
 have k3:=qq_sz hz (by decide)
 have a1:=zy hp hz (by decide)
 have a2:=zy hq hz (by decide)
 have a3:=zK hp hq (by decide)
 have a4:=zA hp hz (by decide)
 have a5:=zA hq hz (by decide)
 have k4:=qq_sz (hp.add hz) (by decide)
 have k5:=qq_sz (hq.add hz) (by decide)
 have k6:=qq_sz (hp.mul hz) (by decide)
 have k7:=qq_sz (hq.mul hz) (by decide)
 have g1:=sg_sz (hp.sub hq) (by decide)
 have g2:=sg_sz hz (by decide)
 have c0:∀a b:Rat,cmpO (some a) (some b)=cmpQ a b:=fun _ _=>rfl
 have b1:=zp p q
 have b2:=zp z 0
 have w1:=wr64 (n:=0 - cmpQ p q) (by omega)
 have b3:-1≤cmpQ p q*cmpQ z 0∧cmpQ p q*cmpQ z 0≤1:=by
  rcases zv p q with ⟨_,e⟩ | ⟨_,e⟩ | ⟨_,e⟩<;>rw [e]<;>omega
 have w2:=wr64 (n:=cmpQ p q*cmpQ z 0) (by omega)
 have w3:cmpQ q p=0 - cmpQ p q:=by rw [zW (p:=p) (q:=q)];omega
 have tr:=@zQ p q z
 have e0:=@qc p q
 simp only [ep,eq,ez,k1,k2,k3,a1,a2,a3,a4,a5,k4,k5,k6,k7,g1,g2,c0,qj,qh,qi,zG,w1,w2,w3,Option.isSome_some,bne_self_eq_false,Bool.not_true,beq_self_eq_true,decide_eq_true_eq,decide_eq_false_iff_not,beq_iff_eq,Bool.not_eq_false',beq_eq_false_iff_ne]
 try (first | (rw [e0 (by assumption)];done) | (rw [e0 (by assumption)] at *;omega) | (have:=tr (by assumption) (by assumption);omega) | omega)
theorem zcR (l:(List Int×List Int×List Int))  (d1:((((cmpO (qq (rq (madeR l.1))) (qq (rq (madeR l.2.1)))) == (0:Int))))=true):((!(decide ((rq (madeR l.1))=(rq (madeR l.2.1))))))=false:=by
 obtain ⟨p,q,z,ep,eq,ez,hp,hq,hz⟩:=zM l
 have k1:=qq_sz hp (by decide)
 have k2:=qq_sz hq (by decide)
 have k3:=qq_sz hz (by decide)
 have a1:=zy hp hz (by decide)
 have a2:=zy hq hz (by decide)
 have a3:=zK hp hq (by decide)
 have a4:=zA hp hz (by decide)
 have a5:=zA hq hz (by decide)
 have k4:=qq_sz (hp.add hz) (by decide)
 have k5:=qq_sz (hq.add hz) (by decide)
 have k6:=qq_sz (hp.mul hz) (by decide)
 have k7:=qq_sz (hq.mul hz) (by decide)
 have g1:=sg_sz (hp.sub hq) (by decide)
 have g2:=sg_sz hz (by decide)
 have c0:∀a b:Rat,cmpO (some a) (some b)=cmpQ a b:=fun _ _=>rfl
 have b1:=zp p q
 have b2:=zp z 0
 have w1:=wr64 (n:=0 - cmpQ p q) (by omega)
 have b3:-1≤cmpQ p q*cmpQ z 0∧cmpQ p q*cmpQ z 0≤1:=by
  rcases zv p q with ⟨_,e⟩ | ⟨_,e⟩ | ⟨_,e⟩<;>rw [e]<;>omega
 have w2:=wr64 (n:=cmpQ p q*cmpQ z 0) (by omega)
 have w3:cmpQ q p=0 - cmpQ p q:=by rw [zW (p:=p) (q:=q)];omega
 have tr:=@zQ p q z
 have e0:=@qc p q
 simp only [ep,eq,ez,k1,k2,k3,a1,a2,a3,a4,a5,k4,k5,k6,k7,g1,g2,c0,qj,qh,qi,zG,w1,w2,w3,Option.isSome_some,bne_self_eq_false,Bool.not_true,beq_self_eq_true,decide_eq_true_eq,decide_eq_false_iff_not,beq_iff_eq,Bool.not_eq_false',beq_eq_false_iff_ne] at d1 ⊢
 try (first | (rw [e0 (by assumption)];done) | (rw [e0 (by assumption)] at *;omega) | (have:=tr (by assumption) (by assumption);omega) | omega)
theorem ziy (l:(List Int×List Int×List Int))  (d1:((((cmpO (qq (rq (madeR l.1))) (qq (rq (madeR l.2.1)))) == (0:Int))))=true) (d2:((decide ((cmpO (qq (rq (madeR l.1))) (qq (rq (madeR l.2.1))))≤(0:Int))))=true) (d3:((decide ((cmpO (qq (rq (madeR l.2.1))) (qq (rq (madeR l.2.2))))≤(0:Int))))=true):((decide ((cmpO (qq (rq (madeR l.1))) (qq (rq (madeR l.2.2)))) > (0:Int))))=false:=by
 obtain ⟨p,q,z,ep,eq,ez,hp,hq,hz⟩:=zM l
 have k1:=qq_sz hp (by decide)
 have k2:=qq_sz hq (by decide)
 have k3:=qq_sz hz (by decide)
 have a1:=zy hp hz (by decide)
 have a2:=zy hq hz (by decide)
 have a3:=zK hp hq (by decide)
 have a4:=zA hp hz (by decide)
 have a5:=zA hq hz (by decide)
 have k4:=qq_sz (hp.add hz) (by decide)
 have k5:=qq_sz (hq.add hz) (by decide)
 have k6:=qq_sz (hp.mul hz) (by decide)
 have k7:=qq_sz (hq.mul hz) (by decide)
 have g1:=sg_sz (hp.sub hq) (by decide)
 have g2:=sg_sz hz (by decide)
 have c0:∀a b:Rat,cmpO (some a) (some b)=cmpQ a b:=fun _ _=>rfl
 have b1:=zp p q
 have b2:=zp z 0
 have w1:=wr64 (n:=0 - cmpQ p q) (by omega)
 have b3:-1≤cmpQ p q*cmpQ z 0∧cmpQ p q*cmpQ z 0≤1:=by
  rcases zv p q with ⟨_,e⟩ | ⟨_,e⟩ | ⟨_,e⟩<;>rw [e]<;>omega
 have w2:=wr64 (n:=cmpQ p q*cmpQ z 0) (by omega)
 have w3:cmpQ q p=0 - cmpQ p q:=by rw [zW (p:=p) (q:=q)];omega
 have tr:=@zQ p q z
 have e0:=@qc p q
 simp only [ep,eq,ez,k1,k2,k3,a1,a2,a3,a4,a5,k4,k5,k6,k7,g1,g2,c0,qj,qh,qi,zG,w1,w2,w3,Option.isSome_some,bne_self_eq_false,Bool.not_true,beq_self_eq_true,decide_eq_true_eq,decide_eq_false_iff_not,beq_iff_eq,Bool.not_eq_false',beq_eq_false_iff_ne] at d1 d2 d3 ⊢
 try (first | (rw [e0 (by assumption)];done) | (rw [e0 (by assumption)] at *;omega) | (have:=tr (by assumption) (by assumption);omega) | omega)
theorem ziz (l:(List Int×List Int×List Int))  (d1:((((cmpO (qq (rq (madeR l.1))) (qq (rq (madeR l.2.1)))) == (0:Int))))=true) (d2:((decide ((cmpO (qq (rq (madeR l.1))) (qq (rq (madeR l.2.1))))≤(0:Int))))=true) (d3:((decide ((cmpO (qq (rq (madeR l.2.1))) (qq (rq (madeR l.2.2))))≤(0:Int))))=true):((true))=true:=by
 obtain ⟨p,q,z,ep,eq,ez,hp,hq,hz⟩:=zM l
 have k1:=qq_sz hp (by decide)
 have k2:=qq_sz hq (by decide)
 have k3:=qq_sz hz (by decide)
 have a1:=zy hp hz (by decide)
 have a2:=zy hq hz (by decide)
 have a3:=zK hp hq (by decide)
 have a4:=zA hp hz (by decide)
 have a5:=zA hq hz (by decide)
 have k4:=qq_sz (hp.add hz) (by decide)
 have k5:=qq_sz (hq.add hz) (by decide)
 have k6:=qq_sz (hp.mul hz) (by decide)
 have k7:=qq_sz (hq.mul hz) (by decide)
 have g1:=sg_sz (hp.sub hq) (by decide)
 have g2:=sg_sz hz (by decide)
 have c0:∀a b:Rat,cmpO (some a) (some b)=cmpQ a b:=fun _ _=>rfl
 have b1:=zp p q
 have b2:=zp z 0
 have w1:=wr64 (n:=0 - cmpQ p q) (by omega)
 have b3:-1≤cmpQ p q*cmpQ z 0∧cmpQ p q*cmpQ z 0≤1:=by
  rcases zv p q with ⟨_,e⟩ | ⟨_,e⟩ | ⟨_,e⟩<;>rw [e]<;>omega
 have w2:=wr64 (n:=cmpQ p q*cmpQ z 0) (by omega)
 have w3:cmpQ q p=0 - cmpQ p q:=by rw [zW (p:=p) (q:=q)];omega
 have tr:=@zQ p q z
 have e0:=@qc p q
 simp only [ep,eq,ez,k1,k2,k3,a1,a2,a3,a4,a5,k4,k5,k6,k7,g1,g2,c0,qj,qh,qi,zG,w1,w2,w3,Option.isSome_some,bne_self_eq_false,Bool.not_true,beq_self_eq_true,decide_eq_true_eq,decide_eq_false_iff_not,beq_iff_eq,Bool.not_eq_false',beq_eq_false_iff_ne] at d1 d2 d3 ⊢
 try (first | (rw [e0 (by assumption)];done) | (rw [e0 (by assumption)] at *;omega) | (have:=tr (by assumption) (by assumption);omega) | omega)
theorem ziA (l:(List Int×List Int×List Int))  (d1:((((cmpO (qq (rq (madeR l.1))) (qq (rq (madeR l.2.1)))) == (0:Int))))=true) (d2:((decide ((cmpO (qq (rq (madeR l.1))) (qq (rq (madeR l.2.1))))≤(0:Int))))=true) (d3:((decide ((cmpO (qq (rq (madeR l.2.1))) (qq (rq (madeR l.2.2))))≤(0:Int))))=true):((cmpO (qq (rq (madeR l.1))) (qq (rq (madeR l.1)))) == (0:Int))=true:=by
 obtain ⟨p,q,z,ep,eq,ez,hp,hq,hz⟩:=zM l
 have k1:=qq_sz hp (by decide)
 have k2:=qq_sz hq (by decide)
 have k3:=qq_sz hz (by decide)
 have a1:=zy hp hz (by decide)
 have a2:=zy hq hz (by decide)
 have a3:=zK hp hq (by decide)
 have a4:=zA hp hz (by decide)
 have a5:=zA hq hz (by decide)
 have k4:=qq_sz (hp.add hz) (by decide)
 have k5:=qq_sz (hq.add hz) (by decide)
 have k6:=qq_sz (hp.mul hz) (by decide)
 have k7:=qq_sz (hq.mul hz) (by decide)
 have g1:=sg_sz (hp.sub hq) (by decide)
 have g2:=sg_sz hz (by decide)
 have c0:∀a b:Rat,cmpO (some a) (some b)=cmpQ a b:=fun _ _=>rfl
 have b1:=zp p q
 have b2:=zp z 0
 have w1:=wr64 (n:=0 - cmpQ p q) (by omega)
 have b3:-1≤cmpQ p q*cmpQ z 0∧cmpQ p q*cmpQ z 0≤1:=by
  rcases zv p q with ⟨_,e⟩ | ⟨_,e⟩ | ⟨_,e⟩<;>rw [e]<;>omega
 have w2:=wr64 (n:=cmpQ p q*cmpQ z 0) (by omega)
 have w3:cmpQ q p=0 - cmpQ p q:=by rw [zW (p:=p) (q:=q)];omega
 have tr:=@zQ p q z
 have e0:=@qc p q
 simp only [ep,eq,ez,k1,k2,k3,a1,a2,a3,a4,a5,k4,k5,k6,k7,g1,g2,c0,qj,qh,qi,zG,w1,w2,w3,Option.isSome_some,bne_self_eq_false,Bool.not_true,beq_self_eq_true,decide_eq_true_eq,decide_eq_false_iff_not,beq_iff_eq,Bool.not_eq_false',beq_eq_false_iff_ne] at d1 d2 d3 ⊢
 try (first | (rw [e0 (by assumption)];done) | (rw [e0 (by assumption)] at *;omega) | (have:=tr (by assumption) (by assumption);omega) | omega)
theorem ziB (l:(List Int×List Int×List Int))  (d1:((((cmpO (qq (rq (madeR l.1))) (qq (rq (madeR l.2.1)))) == (0:Int))))=true) (d2:((decide ((cmpO (qq (rq (madeR l.1))) (qq (rq (madeR l.2.1))))≤(0:Int))))=true) (d3:((decide ((cmpO (qq (rq (madeR l.2.1))) (qq (rq (madeR l.2.2))))≤(0:Int))))=false):((true))=true:=by
 obtain ⟨p,q,z,ep,eq,ez,hp,hq,hz⟩:=zM l
 have k1:=qq_sz hp (by decide)
 have k2:=qq_sz hq (by decide)
 have k3:=qq_sz hz (by decide)
 have a1:=zy hp hz (by decide)
 have a2:=zy hq hz (by decide)
 have a3:=zK hp hq (by decide)
 have a4:=zA hp hz (by decide)
 have a5:=zA hq hz (by decide)
 have k4:=qq_sz (hp.add hz) (by decide)
 have k5:=qq_sz (hq.add hz) (by decide)
 have k6:=qq_sz (hp.mul hz) (by decide)
 have k7:=qq_sz (hq.mul hz) (by decide)
 have g1:=sg_sz (hp.sub hq) (by decide)
 have g2:=sg_sz hz (by decide)
 have c0:∀a b:Rat,cmpO (some a) (some b)=cmpQ a b:=fun _ _=>rfl
 have b1:=zp p q
 have b2:=zp z 0
 have w1:=wr64 (n:=0 - cmpQ p q) (by omega)
 have b3:-1≤cmpQ p q*cmpQ z 0∧cmpQ p q*cmpQ z 0≤1:=by
  rcases zv p q with ⟨_,e⟩ | ⟨_,e⟩ | ⟨_,e⟩<;>rw [e]<;>omega
 have w2:=wr64 (n:=cmpQ p q*cmpQ z 0) (by omega)
 have w3:cmpQ q p=0 - cmpQ p q:=by rw [zW (p:=p) (q:=q)];omega
 have tr:=@zQ p q z
 have e0:=@qc p q
 simp only [ep,eq,ez,k1,k2,k3,a1,a2,a3,a4,a5,k4,k5,k6,k7,g1,g2,c0,qj,qh,qi,zG,w1,w2,w3,Option.isSome_some,bne_self_eq_false,Bool.not_true,beq_self_eq_true,decide_eq_true_eq,decide_eq_false_iff_not,beq_iff_eq,Bool.not_eq_false',beq_eq_false_iff_ne] at d1 d2 d3 ⊢
 try (first | (rw [e0 (by assumption)];done) | (rw [e0 (by assumption)] at *;omega) | (have:=tr (by assumption) (by assumption);omega) | omega)
theorem ziC (l:(List Int×List Int×List Int))  (d1:((((cmpO (qq (rq (madeR l.1))) (qq (rq (madeR l.2.1)))) == (0:Int))))=true) (d2:((decide ((cmpO (qq (rq (madeR l.1))) (qq (rq (madeR l.2.1))))≤(0:Int))))=true) (d3:((decide ((cmpO (qq (rq (madeR l.2.1))) (qq (rq (madeR l.2.2))))≤(0:Int))))=false):((cmpO (qq (rq (madeR l.1))) (qq (rq (madeR l.1)))) == (0:Int))=true:=by
 obtain ⟨p,q,z,ep,eq,ez,hp,hq,hz⟩:=zM l
 have k1:=qq_sz hp (by decide)
 have k2:=qq_sz hq (by decide)
 have k3:=qq_sz hz (by decide)
 have a1:=zy hp hz (by decide)
 have a2:=zy hq hz (by decide)
 have a3:=zK hp hq (by decide)
 have a4:=zA hp hz (by decide)
 have a5:=zA hq hz (by decide)
 have k4:=qq_sz (hp.add hz) (by decide)
 have k5:=qq_sz (hq.add hz) (by decide)
 have k6:=qq_sz (hp.mul hz) (by decide)
 have k7:=qq_sz (hq.mul hz) (by decide)
 have g1:=sg_sz (hp.sub hq) (by decide)
 have g2:=sg_sz hz (by decide)
 have c0:∀a b:Rat,cmpO (some a) (some b)=cmpQ a b:=fun _ _=>rfl
 have b1:=zp p q
 have b2:=zp z 0
 have w1:=wr64 (n:=0 - cmpQ p q) (by omega)
 have b3:-1≤cmpQ p q*cmpQ z 0∧cmpQ p q*cmpQ z 0≤1:=by
  rcases zv p q with ⟨_,e⟩ | ⟨_,e⟩ | ⟨_,e⟩<;>rw [e]<;>omega
 have w2:=wr64 (n:=cmpQ p q*cmpQ z 0) (by omega)
 have w3:cmpQ q p=0 - cmpQ p q:=by rw [zW (p:=p) (q:=q)];omega
 have tr:=@zQ p q z
 have e0:=@qc p q
 simp only [ep,eq,ez,k1,k2,k3,a1,a2,a3,a4,a5,k4,k5,k6,k7,g1,g2,c0,qj,qh,qi,zG,w1,w2,w3,Option.isSome_some,bne_self_eq_false,Bool.not_true,beq_self_eq_true,decide_eq_true_eq,decide_eq_false_iff_not,beq_iff_eq,Bool.not_eq_false',beq_eq_false_iff_ne] at d1 d2 d3 ⊢
 try (first | (rw [e0 (by assumption)];done) | (rw [e0 (by assumption)] at *;omega) | (have:=tr (by assumption) (by assumption);omega) | omega)
theorem ziD (l:(List Int×List Int×List Int))  (d1:((((cmpO (qq (rq (madeR l.1))) (qq (rq (madeR l.2.1)))) == (0:Int))))=true) (d2:((decide ((cmpO (qq (rq (madeR l.1))) (qq (rq (madeR l.2.1))))≤(0:Int))))=false):((true))=true:=by
 obtain ⟨p,q,z,ep,eq,ez,hp,hq,hz⟩:=zM l
 have k1:=qq_sz hp (by decide)
 have k2:=qq_sz hq (by decide)
 have k3:=qq_sz hz (by decide)
 have a1:=zy hp hz (by decide)
 have a2:=zy hq hz (by decide)
 have a3:=zK hp hq (by decide)
 have a4:=zA hp hz (by decide)
 have a5:=zA hq hz (by decide)
 have k4:=qq_sz (hp.add hz) (by decide)
 have k5:=qq_sz (hq.add hz) (by decide)
 have k6:=qq_sz (hp.mul hz) (by decide)
 have k7:=qq_sz (hq.mul hz) (by decide)
 have g1:=sg_sz (hp.sub hq) (by decide)
 have g2:=sg_sz hz (by decide)
 have c0:∀a b:Rat,cmpO (some a) (some b)=cmpQ a b:=fun _ _=>rfl
 have b1:=zp p q
 have b2:=zp z 0
 have w1:=wr64 (n:=0 - cmpQ p q) (by omega)
 have b3:-1≤cmpQ p q*cmpQ z 0∧cmpQ p q*cmpQ z 0≤1:=by
  rcases zv p q with ⟨_,e⟩ | ⟨_,e⟩ | ⟨_,e⟩<;>rw [e]<;>omega
 have w2:=wr64 (n:=cmpQ p q*cmpQ z 0) (by omega)
 have w3:cmpQ q p=0 - cmpQ p q:=by rw [zW (p:=p) (q:=q)];omega
 have tr:=@zQ p q z
 have e0:=@qc p q
 simp only [ep,eq,ez,k1,k2,k3,a1,a2,a3,a4,a5,k4,k5,k6,k7,g1,g2,c0,qj,qh,qi,zG,w1,w2,w3,Option.isSome_some,bne_self_eq_false,Bool.not_true,beq_self_eq_true,decide_eq_true_eq,decide_eq_false_iff_not,beq_iff_eq,Bool.not_eq_false',beq_eq_false_iff_ne] at d1 d2 ⊢
 try (first | (rw [e0 (by assumption)];done) | (rw [e0 (by assumption)] at *;omega) | (have:=tr (by assumption) (by assumption);omega) | omega)
theorem ziE (l:(List Int×List Int×List Int))  (d1:((((cmpO (qq (rq (madeR l.1))) (qq (rq (madeR l.2.1)))) == (0:Int))))=true) (d2:((decide ((cmpO (qq (rq (madeR l.1))) (qq (rq (madeR l.2.1))))≤(0:Int))))=false):((cmpO (qq (rq (madeR l.1))) (qq (rq (madeR l.1)))) == (0:Int))=true:=by
 obtain ⟨p,q,z,ep,eq,ez,hp,hq,hz⟩:=zM l
 have k1:=qq_sz hp (by decide)
 have k2:=qq_sz hq (by decide)
 have k3:=qq_sz hz (by decide)
 have a1:=zy hp hz (by decide)
 have a2:=zy hq hz (by decide)
 have a3:=zK hp hq (by decide)
 have a4:=zA hp hz (by decide)
 have a5:=zA hq hz (by decide)
 have k4:=qq_sz (hp.add hz) (by decide)
 have k5:=qq_sz (hq.add hz) (by decide)
 have k6:=qq_sz (hp.mul hz) (by decide)
 have k7:=qq_sz (hq.mul hz) (by decide)
 have g1:=sg_sz (hp.sub hq) (by decide)
 have g2:=sg_sz hz (by decide)
 have c0:∀a b:Rat,cmpO (some a) (some b)=cmpQ a b:=fun _ _=>rfl
 have b1:=zp p q
 have b2:=zp z 0
 have w1:=wr64 (n:=0 - cmpQ p q) (by omega)
 have b3:-1≤cmpQ p q*cmpQ z 0∧cmpQ p q*cmpQ z 0≤1:=by
  rcases zv p q with ⟨_,e⟩ | ⟨_,e⟩ | ⟨_,e⟩<;>rw [e]<;>omega
 have w2:=wr64 (n:=cmpQ p q*cmpQ z 0) (by omega)
 have w3:cmpQ q p=0 - cmpQ p q:=by rw [zW (p:=p) (q:=q)];omega
 have tr:=@zQ p q z
 have e0:=@qc p q
 simp only [ep,eq,ez,k1,k2,k3,a1,a2,a3,a4,a5,k4,k5,k6,k7,g1,g2,c0,qj,qh,qi,zG,w1,w2,w3,Option.isSome_some,bne_self_eq_false,Bool.not_true,beq_self_eq_true,decide_eq_true_eq,decide_eq_false_iff_not,beq_iff_eq,Bool.not_eq_false',beq_eq_false_iff_ne] at d1 d2 ⊢
 try (first | (rw [e0 (by assumption)];done) | (rw [e0 (by assumption)] at *;omega) | (have:=tr (by assumption) (by assumption);omega) | omega)
theorem ziF (l:(List Int×List Int×List Int))  (d1:((((cmpO (qq (rq (madeR l.1))) (qq (rq (madeR l.2.1)))) == (0:Int))))=false) (d4:((decide ((cmpO (qq (rq (madeR l.1))) (qq (rq (madeR l.2.1))))≤(0:Int))))=true) (d5:((decide ((cmpO (qq (rq (madeR l.2.1))) (qq (rq (madeR l.2.2))))≤(0:Int))))=true):((decide ((cmpO (qq (rq (madeR l.1))) (qq (rq (madeR l.2.2)))) > (0:Int))))=false:=by
 obtain ⟨p,q,z,ep,eq,ez,hp,hq,hz⟩:=zM l
 have k1:=qq_sz hp (by decide)
 have k2:=qq_sz hq (by decide)
 have k3:=qq_sz hz (by decide)
 have a1:=zy hp hz (by decide)
 have a2:=zy hq hz (by decide)
 have a3:=zK hp hq (by decide)
 have a4:=zA hp hz (by decide)
 have a5:=zA hq hz (by decide)
 have k4:=qq_sz (hp.add hz) (by decide)
 have k5:=qq_sz (hq.add hz) (by decide)
 have k6:=qq_sz (hp.mul hz) (by decide)
 have k7:=qq_sz (hq.mul hz) (by decide)
 have g1:=sg_sz (hp.sub hq) (by decide)
 have g2:=sg_sz hz (by decide)
 have c0:∀a b:Rat,cmpO (some a) (some b)=cmpQ a b:=fun _ _=>rfl
 have b1:=zp p q
 have b2:=zp z 0
 have w1:=wr64 (n:=0 - cmpQ p q) (by omega)
 have b3:-1≤cmpQ p q*cmpQ z 0∧cmpQ p q*cmpQ z 0≤1:=by
  rcases zv p q with ⟨_,e⟩ | ⟨_,e⟩ | ⟨_,e⟩<;>rw [e]<;>omega
 have w2:=wr64 (n:=cmpQ p q*cmpQ z 0) (by omega)
 have w3:cmpQ q p=0 - cmpQ p q:=by rw [zW (p:=p) (q:=q)];omega
 have tr:=@zQ p q z
 have e0:=@qc p q
 simp only [ep,eq,ez,k1,k2,k3,a1,a2,a3,a4,a5,k4,k5,k6,k7,g1,g2,c0,qj,qh,qi,zG,w1,w2,w3,Option.isSome_some,bne_self_eq_false,Bool.not_true,beq_self_eq_true,decide_eq_true_eq,decide_eq_false_iff_not,beq_iff_eq,Bool.not_eq_false',beq_eq_false_iff_ne] at d1 d4 d5 ⊢
 try (first | (rw [e0 (by assumption)];done) | (rw [e0 (by assumption)] at *;omega) | (have:=tr (by assumption) (by assumption);omega) | omega)
theorem ziG (l:(List Int×List Int×List Int))  (d1:((((cmpO (qq (rq (madeR l.1))) (qq (rq (madeR l.2.1)))) == (0:Int))))=false) (d4:((decide ((cmpO (qq (rq (madeR l.1))) (qq (rq (madeR l.2.1))))≤(0:Int))))=true) (d5:((decide ((cmpO (qq (rq (madeR l.2.1))) (qq (rq (madeR l.2.2))))≤(0:Int))))=true):((true))=true:=by
 obtain ⟨p,q,z,ep,eq,ez,hp,hq,hz⟩:=zM l
 have k1:=qq_sz hp (by decide)
 have k2:=qq_sz hq (by decide)
 have k3:=qq_sz hz (by decide)
 have a1:=zy hp hz (by decide)
 have a2:=zy hq hz (by decide)
 have a3:=zK hp hq (by decide)
 have a4:=zA hp hz (by decide)
 have a5:=zA hq hz (by decide)
 have k4:=qq_sz (hp.add hz) (by decide)
 have k5:=qq_sz (hq.add hz) (by decide)
 have k6:=qq_sz (hp.mul hz) (by decide)
 have k7:=qq_sz (hq.mul hz) (by decide)
 have g1:=sg_sz (hp.sub hq) (by decide)
 have g2:=sg_sz hz (by decide)
 have c0:∀a b:Rat,cmpO (some a) (some b)=cmpQ a b:=fun _ _=>rfl
 have b1:=zp p q
 have b2:=zp z 0
 have w1:=wr64 (n:=0 - cmpQ p q) (by omega)
 have b3:-1≤cmpQ p q*cmpQ z 0∧cmpQ p q*cmpQ z 0≤1:=by
  rcases zv p q with ⟨_,e⟩ | ⟨_,e⟩ | ⟨_,e⟩<;>rw [e]<;>omega
 have w2:=wr64 (n:=cmpQ p q*cmpQ z 0) (by omega)
 have w3:cmpQ q p=0 - cmpQ p q:=by rw [zW (p:=p) (q:=q)];omega
 have tr:=@zQ p q z
 have e0:=@qc p q
 simp only [ep,eq,ez,k1,k2,k3,a1,a2,a3,a4,a5,k4,k5,k6,k7,g1,g2,c0,qj,qh,qi,zG,w1,w2,w3,Option.isSome_some,bne_self_eq_false,Bool.not_true,beq_self_eq_true,decide_eq_true_eq,decide_eq_false_iff_not,beq_iff_eq,Bool.not_eq_false',beq_eq_false_iff_ne] at d1 d4 d5 ⊢
 try (first | (rw [e0 (by assumption)];done) | (rw [e0 (by assumption)] at *;omega) | (have:=tr (by assumption) (by assumption);omega) | omega)
theorem ziH (l:(List Int×List Int×List Int))  (d1:((((cmpO (qq (rq (madeR l.1))) (qq (rq (madeR l.2.1)))) == (0:Int))))=false) (d4:((decide ((cmpO (qq (rq (madeR l.1))) (qq (rq (madeR l.2.1))))≤(0:Int))))=true) (d5:((decide ((cmpO (qq (rq (madeR l.2.1))) (qq (rq (madeR l.2.2))))≤(0:Int))))=true):((cmpO (qq (rq (madeR l.1))) (qq (rq (madeR l.1)))) == (0:Int))=true:=by
 obtain ⟨p,q,z,ep,eq,ez,hp,hq,hz⟩:=zM l
 have k1:=qq_sz hp (by decide)
 have k2:=qq_sz hq (by decide)
 have k3:=qq_sz hz (by decide)
 have a1:=zy hp hz (by decide)
 have a2:=zy hq hz (by decide)
 have a3:=zK hp hq (by decide)
 have a4:=zA hp hz (by decide)
 have a5:=zA hq hz (by decide)
 have k4:=qq_sz (hp.add hz) (by decide)
 have k5:=qq_sz (hq.add hz) (by decide)
 have k6:=qq_sz (hp.mul hz) (by decide)
 have k7:=qq_sz (hq.mul hz) (by decide)
 have g1:=sg_sz (hp.sub hq) (by decide)
 have g2:=sg_sz hz (by decide)
 have c0:∀a b:Rat,cmpO (some a) (some b)=cmpQ a b:=fun _ _=>rfl
 have b1:=zp p q
 have b2:=zp z 0
 have w1:=wr64 (n:=0 - cmpQ p q) (by omega)
 have b3:-1≤cmpQ p q*cmpQ z 0∧cmpQ p q*cmpQ z 0≤1:=by
  rcases zv p q with ⟨_,e⟩ | ⟨_,e⟩ | ⟨_,e⟩<;>rw [e]<;>omega
 have w2:=wr64 (n:=cmpQ p q*cmpQ z 0) (by omega)
 have w3:cmpQ q p=0 - cmpQ p q:=by rw [zW (p:=p) (q:=q)];omega
 have tr:=@zQ p q z
 have e0:=@qc p q
 simp only [ep,eq,ez,k1,k2,k3,a1,a2,a3,a4,a5,k4,k5,k6,k7,g1,g2,c0,qj,qh,qi,zG,w1,w2,w3,Option.isSome_some,bne_self_eq_false,Bool.not_true,beq_self_eq_true,decide_eq_true_eq,decide_eq_false_iff_not,beq_iff_eq,Bool.not_eq_false',beq_eq_false_iff_ne] at d1 d4 d5 ⊢
 try (first | (rw [e0 (by assumption)];done) | (rw [e0 (by assumption)] at *;omega) | (have:=tr (by assumption) (by assumption);omega) | omega)
theorem ziI (l:(List Int×List Int×List Int))  (d1:((((cmpO (qq (rq (madeR l.1))) (qq (rq (madeR l.2.1)))) == (0:Int))))=false) (d4:((decide ((cmpO (qq (rq (madeR l.1))) (qq (rq (madeR l.2.1))))≤(0:Int))))=true) (d5:((decide ((cmpO (qq (rq (madeR l.2.1))) (qq (rq (madeR l.2.2))))≤(0:Int))))=false):((true))=true:=by
 obtain ⟨p,q,z,ep,eq,ez,hp,hq,hz⟩:=zM l
 have k1:=qq_sz hp (by decide)
 have k2:=qq_sz hq (by decide)
 have k3:=qq_sz hz (by decide)
 have a1:=zy hp hz (by decide)
 have a2:=zy hq hz (by decide)
 have a3:=zK hp hq (by decide)
 have a4:=zA hp hz (by decide)
 have a5:=zA hq hz (by decide)
 have k4:=qq_sz (hp.add hz) (by decide)
 have k5:=qq_sz (hq.add hz) (by decide)
 have k6:=qq_sz (hp.mul hz) (by decide)
 have k7:=qq_sz (hq.mul hz) (by decide)
 have g1:=sg_sz (hp.sub hq) (by decide)
 have g2:=sg_sz hz (by decide)
 have c0:∀a b:Rat,cmpO (some a) (some b)=cmpQ a b:=fun _ _=>rfl
 have b1:=zp p q
 have b2:=zp z 0
 have w1:=wr64 (n:=0 - cmpQ p q) (by omega)
 have b3:-1≤cmpQ p q*cmpQ z 0∧cmpQ p q*cmpQ z 0≤1:=by
  rcases zv p q with ⟨_,e⟩ | ⟨_,e⟩ | ⟨_,e⟩<;>rw [e]<;>omega
 have w2:=wr64 (n:=cmpQ p q*cmpQ z 0) (by omega)
 have w3:cmpQ q p=0 - cmpQ p q:=by rw [zW (p:=p) (q:=q)];omega
 have tr:=@zQ p q z
 have e0:=@qc p q
 simp only [ep,eq,ez,k1,k2,k3,a1,a2,a3,a4,a5,k4,k5,k6,k7,g1,g2,c0,qj,qh,qi,zG,w1,w2,w3,Option.isSome_some,bne_self_eq_false,Bool.not_true,beq_self_eq_true,decide_eq_true_eq,decide_eq_false_iff_not,beq_iff_eq,Bool.not_eq_false',beq_eq_false_iff_ne] at d1 d4 d5 ⊢
 try (first | (rw [e0 (by assumption)];done) | (rw [e0 (by assumption)] at *;omega) | (have:=tr (by assumption) (by assumption);omega) | omega)
theorem ziJ (l:(List Int×List Int×List Int))  (d1:((((cmpO (qq (rq (madeR l.1))) (qq (rq (madeR l.2.1)))) == (0:Int))))=false) (d4:((decide ((cmpO (qq (rq (madeR l.1))) (qq (rq (madeR l.2.1))))≤(0:Int))))=true) (d5:((decide ((cmpO (qq (rq (madeR l.2.1))) (qq (rq (madeR l.2.2))))≤(0:Int))))=false):((cmpO (qq (rq (madeR l.1))) (qq (rq (madeR l.1)))) == (0:Int))=true:=by
 obtain ⟨p,q,z,ep,eq,ez,hp,hq,hz⟩:=zM l
 have k1:=qq_sz hp (by decide)
 have k2:=qq_sz hq (by decide)
 have k3:=qq_sz hz (by decide)
 have a1:=zy hp hz (by decide)
 have a2:=zy hq hz (by decide)
 have a3:=zK hp hq (by decide)
 have a4:=zA hp hz (by decide)
 have a5:=zA hq hz (by decide)
 have k4:=qq_sz (hp.add hz) (by decide)
 have k5:=qq_sz (hq.add hz) (by decide)
 have k6:=qq_sz (hp.mul hz) (by decide)
 have k7:=qq_sz (hq.mul hz) (by decide)
 have g1:=sg_sz (hp.sub hq) (by decide)
 have g2:=sg_sz hz (by decide)
 have c0:∀a b:Rat,cmpO (some a) (some b)=cmpQ a b:=fun _ _=>rfl
 have b1:=zp p q
 have b2:=zp z 0
 have w1:=wr64 (n:=0 - cmpQ p q) (by omega)
 have b3:-1≤cmpQ p q*cmpQ z 0∧cmpQ p q*cmpQ z 0≤1:=by
  rcases zv p q with ⟨_,e⟩ | ⟨_,e⟩ | ⟨_,e⟩<;>rw [e]<;>omega
 have w2:=wr64 (n:=cmpQ p q*cmpQ z 0) (by omega)
 have w3:cmpQ q p=0 - cmpQ p q:=by rw [zW (p:=p) (q:=q)];omega
 have tr:=@zQ p q z
 have e0:=@qc p q
 simp only [ep,eq,ez,k1,k2,k3,a1,a2,a3,a4,a5,k4,k5,k6,k7,g1,g2,c0,qj,qh,qi,zG,w1,w2,w3,Option.isSome_some,bne_self_eq_false,Bool.not_true,beq_self_eq_true,decide_eq_true_eq,decide_eq_false_iff_not,beq_iff_eq,Bool.not_eq_false',beq_eq_false_iff_ne] at d1 d4 d5 ⊢
 try (first | (rw [e0 (by assumption)];done) | (rw [e0 (by assumption)] at *;omega) | (have:=tr (by assumption) (by assumption);omega) | omega)
theorem ziK (l:(List Int×List Int×List Int))  (d1:((((cmpO (qq (rq (madeR l.1))) (qq (rq (madeR l.2.1)))) == (0:Int))))=false) (d4:((decide ((cmpO (qq (rq (madeR l.1))) (qq (rq (madeR l.2.1))))≤(0:Int))))=false):((true))=true:=by
 obtain ⟨p,q,z,ep,eq,ez,hp,hq,hz⟩:=zM l
 have k1:=qq_sz hp (by decide)
 have k2:=qq_sz hq (by decide)
 have k3:=qq_sz hz (by decide)
 have a1:=zy hp hz (by decide)
 have a2:=zy hq hz (by decide)
 have a3:=zK hp hq (by decide)
 have a4:=zA hp hz (by decide)
 have a5:=zA hq hz (by decide)
 have k4:=qq_sz (hp.add hz) (by decide)
 have k5:=qq_sz (hq.add hz) (by decide)
 have k6:=qq_sz (hp.mul hz) (by decide)
 have k7:=qq_sz (hq.mul hz) (by decide)
 have g1:=sg_sz (hp.sub hq) (by decide)
 have g2:=sg_sz hz (by decide)
 have c0:∀a b:Rat,cmpO (some a) (some b)=cmpQ a b:=fun _ _=>rfl
 have b1:=zp p q
 have b2:=zp z 0
 have w1:=wr64 (n:=0 - cmpQ p q) (by omega)
 have b3:-1≤cmpQ p q*cmpQ z 0∧cmpQ p q*cmpQ z 0≤1:=by
  rcases zv p q with ⟨_,e⟩ | ⟨_,e⟩ | ⟨_,e⟩<;>rw [e]<;>omega
 have w2:=wr64 (n:=cmpQ p q*cmpQ z 0) (by omega)
 have w3:cmpQ q p=0 - cmpQ p q:=by rw [zW (p:=p) (q:=q)];omega
 have tr:=@zQ p q z
 have e0:=@qc p q
 simp only [ep,eq,ez,k1,k2,k3,a1,a2,a3,a4,a5,k4,k5,k6,k7,g1,g2,c0,qj,qh,qi,zG,w1,w2,w3,Option.isSome_some,bne_self_eq_false,Bool.not_true,beq_self_eq_true,decide_eq_true_eq,decide_eq_false_iff_not,beq_iff_eq,Bool.not_eq_false',beq_eq_false_iff_ne] at d1 d4 ⊢
 try (first | (rw [e0 (by assumption)];done) | (rw [e0 (by assumption)] at *;omega) | (have:=tr (by assumption) (by assumption);omega) | omega)
theorem ziL (l:(List Int×List Int×List Int))  (d1:((((cmpO (qq (rq (madeR l.1))) (qq (rq (madeR l.2.1)))) == (0:Int))))=false) (d4:((decide ((cmpO (qq (rq (madeR l.1))) (qq (rq (madeR l.2.1))))≤(0:Int))))=false):((cmpO (qq (rq (madeR l.1))) (qq (rq (madeR l.1)))) == (0:Int))=true:=by
 obtain ⟨p,q,z,ep,eq,ez,hp,hq,hz⟩:=zM l
 have k1:=qq_sz hp (by decide)
 have k2:=qq_sz hq (by decide)
 have k3:=qq_sz hz (by decide)
 have a1:=zy hp hz (by decide)
 have a2:=zy hq hz (by decide)
 have a3:=zK hp hq (by decide)
 have a4:=zA hp hz (by decide)
 have a5:=zA hq hz (by decide)
 have k4:=qq_sz (hp.add hz) (by decide)
 have k5:=qq_sz (hq.add hz) (by decide)
 have k6:=qq_sz (hp.mul hz) (by decide)
 have k7:=qq_sz (hq.mul hz) (by decide)
 have g1:=sg_sz (hp.sub hq) (by decide)
 have g2:=sg_sz hz (by decide)
 have c0:∀a b:Rat,cmpO (some a) (some b)=cmpQ a b:=fun _ _=>rfl
 have b1:=zp p q
 have b2:=zp z 0
 have w1:=wr64 (n:=0 - cmpQ p q) (by omega)
 have b3:-1≤cmpQ p q*cmpQ z 0∧cmpQ p q*cmpQ z 0≤1:=by
  rcases zv p q with ⟨_,e⟩ | ⟨_,e⟩ | ⟨_,e⟩<;>rw [e]<;>omega
 have w2:=wr64 (n:=cmpQ p q*cmpQ z 0) (by omega)
 have w3:cmpQ q p=0 - cmpQ p q:=by rw [zW (p:=p) (q:=q)];omega
 have tr:=@zQ p q z
 have e0:=@qc p q
 simp only [ep,eq,ez,k1,k2,k3,a1,a2,a3,a4,a5,k4,k5,k6,k7,g1,g2,c0,qj,qh,qi,zG,w1,w2,w3,Option.isSome_some,bne_self_eq_false,Bool.not_true,beq_self_eq_true,decide_eq_true_eq,decide_eq_false_iff_not,beq_iff_eq,Bool.not_eq_false',beq_eq_false_iff_ne] at d1 d4 ⊢
 try (first | (rw [e0 (by assumption)];done) | (rw [e0 (by assumption)] at *;omega) | (have:=tr (by assumption) (by assumption);omega) | omega)
theorem zoP {w0:World} (hM:∀W,Below w0.heap.size w0 W→MaxT W) (hTS:∀W,Below w0.heap.size w0 W→PowT w0.heap.size W∧SynT w0.heap.size W) (l:(List Int×List Int×List Int)) :Fun (KN w0) Tryz.prog 5 [.o (.g [pLs cI l.1,pLs cI l.2.1,pLs cI l.2.2])] (.o (.c (pV (.bool true)))):=by
 rcases Bool.eq_false_or_eq_true ((((cmpO (qq (rq (madeR l.1))) (qq (rq (madeR l.2.1)))) == (0:Int)))) with d1 | d1
 ·
  rcases Bool.eq_false_or_eq_true ((decide ((cmpO (qq (rq (madeR l.1))) (qq (rq (madeR l.2.1))))≤(0:Int)))) with d2 | d2
  ·
   rcases Bool.eq_false_or_eq_true ((decide ((cmpO (qq (rq (madeR l.2.1))) (qq (rq (madeR l.2.2))))≤(0:Int)))) with d3 | d3
   ·
    exact zkj l hM hTS _ _ _ _ _ _ _ _ _ _ _ _ _ _ _ _ _ _ _ _ _ _ _ _ _ _ _ _ _ _ _ _ _ _ _ _ _ _ _ _ _ rfl rfl rfl rfl rfl rfl rfl rfl rfl rfl rfl rfl rfl rfl rfl rfl rfl rfl rfl rfl rfl rfl rfl rfl rfl rfl rfl rfl rfl rfl rfl rfl rfl rfl rfl rfl rfl rfl rfl rfl (ziA l  d1 d2 d3) (zaS l  ) (zaT l  ) (zaU l  ) (zaV l  ) (zaW l  ) (zaX l  ) (zaY l  ) (zaZ l  ) (za0 l  ) d1 (zcR l  d1) d2 d3 (ziy l  d1 d2 d3) (ziz l  d1 d2 d3)
   ·
    exact zkk l hM hTS _ _ _ _ _ _ _ _ _ _ _ _ _ _ _ _ _ _ _ _ _ _ _ _ _ _ _ _ _ _ _ _ _ _ _ _ _ _ _ rfl rfl rfl rfl rfl rfl rfl rfl rfl rfl rfl rfl rfl rfl rfl rfl rfl rfl rfl rfl rfl rfl rfl rfl rfl rfl rfl rfl rfl rfl rfl rfl rfl rfl rfl rfl rfl rfl (ziC l  d1 d2 d3) (zaS l  ) (zaT l  ) (zaU l  ) (zaV l  ) (zaW l  ) (zaX l  ) (zaY l  ) (zaZ l  ) (za0 l  ) d1 (zcR l  d1) d2 d3 (ziB l  d1 d2 d3)
  ·
   exact zkl l hM hTS _ _ _ _ _ _ _ _ _ _ _ _ _ _ _ _ _ _ _ _ _ _ _ _ _ _ _ _ _ _ _ _ _ _ _ _ _ rfl rfl rfl rfl rfl rfl rfl rfl rfl rfl rfl rfl rfl rfl rfl rfl rfl rfl rfl rfl rfl rfl rfl rfl rfl rfl rfl rfl rfl rfl rfl rfl rfl rfl rfl rfl (ziE l  d1 d2) (zaS l  ) (zaT l  ) (zaU l  ) (zaV l  ) (zaW l  ) (zaX l  ) (zaY l  ) (zaZ l  ) (za0 l  ) d1 (zcR l  d1) d2 (ziD l  d1 d2)
 ·
  rcases Bool.eq_false_or_eq_true ((decide ((cmpO (qq (rq (madeR l.1))) (qq (rq (madeR l.2.1))))≤(0:Int)))) with d4 | d4
  ·
   rcases Bool.eq_false_or_eq_true ((decide ((cmpO (qq (rq (madeR l.2.1))) (qq (rq (madeR l.2.2))))≤(0:Int)))) with d5 | d5
   ·
    exact zkm l hM hTS _ _ _ _ _ _ _ _ _ _ _ _ _ _ _ _ _ _ _ _ _ _ _ _ _ _ _ _ _ _ _ _ _ _ _ _ _ _ _ rfl rfl rfl rfl rfl rfl rfl rfl rfl rfl rfl rfl rfl rfl rfl rfl rfl rfl rfl rfl rfl rfl rfl rfl rfl rfl rfl rfl rfl rfl rfl rfl rfl rfl rfl rfl rfl rfl (ziH l  d1 d4 d5) (zaS l  ) (zaT l  ) (zaU l  ) (zaV l  ) (zaW l  ) (zaX l  ) (zaY l  ) (zaZ l  ) (za0 l  ) d1 d4 d5 (ziF l  d1 d4 d5) (ziG l  d1 d4 d5)
   ·
    exact zkn l hM hTS _ _ _ _ _ _ _ _ _ _ _ _ _ _ _ _ _ _ _ _ _ _ _ _ _ _ _ _ _ _ _ _ _ _ _ _ _ rfl rfl rfl rfl rfl rfl rfl rfl rfl rfl rfl rfl rfl rfl rfl rfl rfl rfl rfl rfl rfl rfl rfl rfl rfl rfl rfl rfl rfl rfl rfl rfl rfl rfl rfl rfl (ziJ l  d1 d4 d5) (zaS l  ) (zaT l  ) (zaU l  ) (zaV l  ) (zaW l  ) (zaX l  ) (zaY l  ) (zaZ l  ) (za0 l  ) d1 d4 d5 (ziI l  d1 d4 d5)
  ·
   exact zko l hM hTS _ _ _ _ _ _ _ _ _ _ _ _ _ _ _ _ _ _ _ _ _ _ _ _ _ _ _ _ _ _ _ _ _ _ _ rfl rfl rfl rfl rfl rfl rfl rfl rfl rfl rfl rfl rfl rfl rfl rfl rfl rfl rfl rfl rfl rfl rfl rfl rfl rfl rfl rfl rfl rfl rfl rfl rfl rfl (ziL l  d1 d4) (zaS l  ) (zaT l  ) (zaU l  ) (zaV l  ) (zaW l  ) (zaX l  ) (zaY l  ) (zaZ l  ) (za0 l  ) d1 d4 (ziK l  d1 d4)
end Go.Proofs.YtccjiodohphgnaaGreatDoor
namespace Go.Proofs.YtccjiodohphgnaaGreatDoor
open Go.ChangeShapes Go.WideShapes Go.ChangeAt Go.RowKit Go.Joins Go.Deep
theorem zeE (os:Os) (started:os.Started) (H:Type) (enc:TypeId×Value→H) :
  ReturnsInHanded {} Tryz.checked os 5 .any (fun w args=>(Rows.ratioOrderSpec.pre enc Tryz.prog Tryz.f5 [] false w args∧laidMetH Tryz.prog laidL w)∧sizedMet enc Tryz.prog Tryz.f5 (OpenSpec.ofChange Rows.ratioOrderSpec) false w args)
   (Rows.ratioOrderSpec.post enc Tryz.prog Tryz.f5 false true false false):=by
 refine zaM (C:=Tryz.checked) (X:=fun w _=>laidMetH Tryz.prog laidL w) (fun _ _ _ hh h=>h.of_heap hh) Tryz.own started (by kernel_rfl) Tryz.func5
  (ChangeSpec.witness_shaped (enc:=enc) (C:=Tryz.checked) (os:=os) (X:=fun w _=>laidMetH Tryz.prog laidL w) false (World.doorLaid Tryz.prog 400 os) #[.agg #[.slice none 0 0,.slice none 0 0,.slice none 0 0]] 8 rfl (World.shaped_of_RefB (by kernel_rfl) (by kernel_rfl)) (by kernel_rfl) (by kernel_rfl) (by kernel_rfl) (zck os _)) ?_
 intro W base args ds gs before hval0 hW hL hsh
 have hval:∀(j:Nat) t v,Tryz.f5.params[j]?=some t→args[j]?=some v→Value.okWide Tryz.prog W .any base t v:=hval0
 have hW':=hW
 obtain ⟨p,q,hA0,hV,rfl,hfz,hnd⟩:=hW
 have hA:DataW.TrodAll enc Tryz.prog W 0 (fun _=>true) true Tryz.f5.params.toList args.toList ds p:=hA0
 rw [Tryz.params5] at hA hval
 obtain ⟨v0,d0,rfl,rfl,h0⟩:=trodAll_one hA
 obtain ⟨x0,s0⟩:=zpb (hval 0 39 v0 rfl rfl) h0
 refine (zdv (args:=#[v0]) (zoP (zcq hsh) (zcp hL) x0 ) ⟨s0,trivial⟩).mono fun e W' ⟨he,hb⟩=>?_
 subst he
 exact ⟨_,rfl,zaK rfl Tryz.laidOut (by decide +kernel) 4 (by kernel_rfl) Tryz.underlying4 (fun d hd=>by match d,hd with | [_],_=>rfl) hW' hb⟩
theorem zff:Rows.RatioOrderSaid:=
 OpenClaim.holds_of_wide 5 Tryz.f5 rfl rfl rfl rfl rfl rfl rfl ⟨rfl,rfl,rfl,rfl,rfl⟩ rfl rfl rfl rfl rfl (by kernel_rfl) Tryz.func5 (by kernel_rfl)
  (of_decide_eq_true (by kernel_rfl)) (by unfold Func.isWrapper;rw [if_neg (of_decide_eq_false (by kernel_rfl))];exact ⟨rfl,rfl⟩)
  (fun os started H enc _=>zeE os started H enc)
theorem ratioOrder_card:Rows.RatioOrderCardSaid:=
 Claim7.holds_tied_plain_at .later [] [.data, .data, .data, .sentinel, .sentinel] true (true, "23681dedaca0e9c3ad04b644738b2c5c66df0499f44a887a8592b9d18a9871d5") true
  zff (fun _ h=>by cases h) (by kernel_rfl) (fun _ h=>by cases h) ratioOrder_row_tie rfl ⟨rfl,rfl⟩ (by kernel_rfl) rfl
  (fun f fn hf hfn=>by
   obtain rfl : f = 5 := Option.some.inj ((show Tryz.prog.funcNamed "collet/colletlaw03.RatioOrder" = some 5 by kernel_rfl).symm.trans hf) |>.symm
   obtain rfl:fn=Tryz.f5:=(Option.some.inj (Tryz.func5.symm.trans hfn)).symm
   exact ⟨by kernel_rfl,fun j t ht=>by
    rw [Tryz.params5] at ht
    have hm:t∈[39]:=by simpa using Array.mem_of_getElem? ht
    have hall:([39].all fun u=>!Tryz.prog.wantsStandIn u)=true:=by kernel_rfl
    exact (show Tryz.prog.wantsStandIn t=false by simpa using List.all_eq_true.1 hall t hm)⟩)
  (by kernel_rfl)
end Go.Proofs.YtccjiodohphgnaaGreatDoor
