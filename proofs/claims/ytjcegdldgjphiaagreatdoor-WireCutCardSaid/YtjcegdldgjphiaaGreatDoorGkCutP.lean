/-
  WireCut is proved: whatever the input, the law returns true and each argument reads as it did, where the listed variables read as listed; and the card, which ties it to the program's text.
-/
import Derived.Test.YtjcegdldgjphiaaGreatDoorGkBA
import Derived.Test.YtjcegdldgjphiaaGreatDoorGkAZ
import Derived.Test.YtjcegdldgjphiaaGreatDoorCards
import Derived.Test.YtjcegdldgjphiaaGreatDoorTie
import Derived.SevenTiedAt
set_option linter.unusedSimpArgs false
set_option linter.unusedVariables false
set_option maxRecDepth 100000
set_option maxHeartbeats 4000000
namespace Go.Proofs.YtjcegdldgjphiaaGreatDoor
open Go.RowKit Go.Shelf
theorem zvy {L:Nat} {z:Int} (h1:0<L) (h2:L≤500) (hz:0≤z∧z<65536):IntKind.i64.wrap (IntKind.i64.wrap ((L:Int) - 1) - (IntKind.i64.wrap z).tmod (L:Int))=((L - 1 - z.toNat%L:Nat):Int):=by
 obtain ⟨n,rfl⟩:∃n:Nat,z=(n:Int):=⟨z.toNat,by omega⟩
 have e:(n:Int).tmod (L:Int)=((n%L:Nat):Int):=rfl
 have h3:=Nat.mod_lt n h1
 rw [wri (n:=(L:Int) - 1) (by omega),wri (n:=(n:Int)) (by omega),e,wri (by omega),Int.toNat_natCast]
 omega
theorem zqk (c:Int) (v:Val):0<(byV c v).length:=List.length_pos_iff.2 (by_ne c v)
theorem zuZ {n:Int} (d:decide (n ≥ -64)=true):(((encI n).length:Int) == 1)=decide (n≤63):=by
 have d':=of_decide_eq_true d
 have e:=zsF n
 rw [Bool.eq_iff_iff,beq_iff_eq,decide_eq_true_iff]
 constructor<;>intro h<;>omega
theorem zwr {n:Int} (d:decide (n ≥ -64)=false):(((encI n).length:Int) == 1)=false:=by
 have d':=of_decide_eq_false d
 have e:=zsF n
 rw [beq_eq_false_iff_ne]
 omega
theorem ztY (n:Int):(encI n)[(encI n).length - 1]?=some ((encI n).getLast (zgr n)):=by
 rw [← List.getLast?_eq_getElem?,List.getLast?_eq_some_getLast]
theorem zu1 {v:Val} (hv:OkV v) {k:Nat} (hk:k<(byV (v.1.tmod 6) v).length):malB ((byV (v.1.tmod 6) v).take k) ((IntKind.i64.wrap v.1).tmod 6)=true:=by
 have hk8:=hv.k
 rw [wri (by omega)]
 refine zt0 (zwk hv (List.take_append_drop k _).symm fun h=>?_)
 have:=congrArg List.length h
 rw [List.length_drop] at this
 simp at this
 omega
theorem zsb {w0:World} (v_:Val) (w_:Val) (z:Int) (hM:LM w0) (hTS:LS w0) (v1:(List UInt8)) (v3:(List UInt8)) (v5:Int) (v6:Bool) (v8:Int) (v9:Bool) (v11:Int) (v12:Int) (v13:Int) (n14:Nat) (v16:(List UInt8)) (n18:Nat) (v20:(List UInt8)) (v22:Bool) (v23:Bool) (v24:Bool) (v26:Bool) (v27:Bool) (v28:Bool) (v30:Int) (v31:Int) (v32:Int) (v33:Int) (v34:Int) (v36:Int) (n37:Nat) (v39:(List UInt8)) (v41:Int) (v42:Int) (v43:Bool) (v45:Bool) (v47:(List UInt8)) (v49:Int) (v50:Bool) (v52:Int) (v53:Bool) (v55:Int) (v56:Bool) (v57:Bool) (v59:Bool) (v60:Bool) (v62:Int) (v63:Int) (n64:Nat) (v66:(List UInt8)) (v68:Int) (v69:Int) (n70:Nat) (b71:UInt8) (v74:Int) (v76:(List UInt8)) (v77:(List UInt8)) (v79:Bool) (v82:Int) (v83:Int) (n84:Nat) (v86:(List UInt8)) (v88:Int) (v89:Int) (n90:Nat) (b91:UInt8) (v94:Int) (v96:(List UInt8)) (v97:(List UInt8)) (v99:Bool) (e1:(byV ((v_.1:Int).tmod 6) v_)=v1) (e3:(byV ((v_.1:Int).tmod 6) w_)=v3) (e5:(((v1:List UInt8).length:Int))=v5) (e6:((v5 == (0:Int)))=v6) (e8:(((v3:List UInt8).length:Int))=v8) (e9:((v8 == (0:Int)))=v9) (e11:(((v1:List UInt8).length:Int))=v11) (e12:(((v3:List UInt8).length:Int))=v12) (e13:((if v12<v11 then v12 else v11))=v13) (e16:((v1:List UInt8).take n14)=v16) (e20:((v3:List UInt8).take n18)=v20) (e22:(((v16:List UInt8) == v20))=v22) (e23:(samV ((v_.1:Int).tmod 6) v_ w_)=v23) (e24:(!(v22 == v23))=v24) (e26:(((v1:List UInt8) == v3))=v26) (e27:(samV ((v_.1:Int).tmod 6) v_ w_)=v27) (e28:(!(v26 == v27))=v28) (e30:(((v1:List UInt8).length:Int))=v30) (e31:(IntKind.i64.wrap (v30 - (1:Int)))=v31) (e32:(IntKind.i64.wrap z)=v32) (e33:(((v1:List UInt8).length:Int))=v33) (e34:((v32:Int).tmod v33)=v34) (e36:(IntKind.i64.wrap (v31 - v34))=v36) (e39:((v1:List UInt8).take n37)=v39) (e41:(IntKind.i64.wrap v_.1)=v41) (e42:((v41:Int).tmod (6:Int))=v42) (e43:(malB v39 v42)=v43) (e45:(!v43)=v45) (e47:(encI v_.2.1)=v47) (e49:(((v47:List UInt8).length:Int))=v49) (e50:(decide (v49<(1:Int)))=v50) (e52:(((v47:List UInt8).length:Int))=v52) (e53:(decide (v52 > (10:Int)))=v53) (e55:(((v47:List UInt8).length:Int))=v55) (e56:((v55 == (1:Int)))=v56) (e57:(decide (v_.2.1 ≥ (-64:Int)))=v57) (e59:(decide (v_.2.1≤(63:Int)))=v59) (e60:(!(v56 == v59))=v60) (e62:(((v47:List UInt8).length:Int))=v62) (e63:(IntKind.i64.wrap (v62 - (1:Int)))=v63) (e66:((v47:List UInt8).take n64)=v66) (e68:(((v47:List UInt8).length:Int))=v68) (e69:(IntKind.i64.wrap (v68 - (1:Int)))=v69) (e74:(IntKind.u8.wrap (BitVec.ofInt IntKind.u8.bits (b71.toNat:Int) ||| BitVec.ofInt IntKind.u8.bits (128:Int)).toNat)=v74) (e76:([bI v74])=v76) (e77:(v66++v76)=v77) (e79:(malB v77 (0:Int))=v79) (e82:(((v47:List UInt8).length:Int))=v82) (e83:(IntKind.i64.wrap (v82 - (1:Int)))=v83) (e86:((v47:List UInt8).take n84)=v86) (e88:(((v47:List UInt8).length:Int))=v88) (e89:(IntKind.i64.wrap (v88 - (1:Int)))=v89) (e94:(IntKind.u8.wrap (BitVec.ofInt IntKind.u8.bits (b91.toNat:Int) ||| BitVec.ofInt IntKind.u8.bits (128:Int)).toNat)=v94) (e96:([bI v94,bI (0:Int)])=v96) (e97:(v86++v96)=v97) (e99:(malB v97 (0:Int))=v99) (s2:OkV v_) (s4:OkV w_) (h7:v6=false) (h10:v9=false) (s15:v13=(n14:Int)) (s17:n14≤(v1:List UInt8).length) (s19:v13=(n18:Int)) (s21:n18≤(v3:List UInt8).length) (h25:v24=false) (h29:v28=false) (s35:v33≠0) (s38:v36=(n37:Int)) (s40:n37≤(v1:List UInt8).length) (s44:(v39:List UInt8).length≤1000000) (h46:v45=false) (s48:InI v_.2.1) (h51:v50=false) (h54:v53=false) (h58:v57=true) (h61:v60=false) (s65:v63=(n64:Int)) (s67:n64≤(v47:List UInt8).length) (s72:v69=(n70:Int)) (s73:(v47:List UInt8)[n70]?=some b71) (s75:0≤v74∧v74<256) (s78:(((v66:List UInt8).length+(v76:List UInt8).length:Nat):Int)≤9223372036854775807) (s80:(v77:List UInt8).length≤1000000) (h81:v79=true) (s85:v83=(n84:Int)) (s87:n84≤(v47:List UInt8).length) (s92:v89=(n90:Int)) (s93:(v47:List UInt8)[n90]?=some b91) (s95:0≤v94∧v94<256) (s98:(((v86:List UInt8).length+(v96:List UInt8).length:Nat):Int)≤9223372036854775807) (s100:(v97:List UInt8).length≤1000000):Fun (KN w0) Tryz.prog 7 [.o (.g [pV (.int .u8 v_.1),pI v_.2.1,pS v_.2.2.1,pLs cI v_.2.2.2.1,pI v_.2.2.2.2.1.1,pI v_.2.2.2.2.1.2.1,pI v_.2.2.2.2.1.2.2,pLs cPl v_.2.2.2.2.2.1,pLs cI v_.2.2.2.2.2.2]),.o (.g [pV (.int .u8 w_.1),pI w_.2.1,pS w_.2.2.1,pLs cI w_.2.2.2.1,pI w_.2.2.2.2.1.1,pI w_.2.2.2.2.1.2.1,pI w_.2.2.2.2.1.2.2,pLs cPl w_.2.2.2.2.2.1,pLs cI w_.2.2.2.2.2.2]),.o (.c (pV (.int .u16 z)))] (.o (.c (pB v99))):=
 zi (zl (F:=FL (pV (.int .u8 v_.1)::pI v_.2.1::pS v_.2.2.1::pLs cI v_.2.2.2.1::pI v_.2.2.2.2.1.1::pI v_.2.2.2.2.1.2.1::pI v_.2.2.2.2.1.2.2::pLs cPl v_.2.2.2.2.2.1::pLs cI v_.2.2.2.2.2.2::pV (.int .u8 w_.1)::pI w_.2.1::pS w_.2.2.1::pLs cI w_.2.2.2.1::pI w_.2.2.2.2.1.1::pI w_.2.2.2.2.1.2.1::pI w_.2.2.2.2.1.2.2::pLs cPl w_.2.2.2.2.2.1::pLs cI w_.2.2.2.2.2.2::pV (.int .u16 z)::pS v1::pS v3::pI v5::pB v6::pI v8::pB v9::pI v11::pI v12::pI v13::pS v16::pS v20::pB v22::pB v23::pB v24::pB v26::pB v27::pB v28::pI v30::pI v31::pI v32::pI v33::pI v34::pI v36::pS v39::pI v41::pI v42::pB v43::pB v45::pS v47::pI v49::pB v50::pI v52::pB v53::pI v55::pB v56::pB v57::pB v59::pB v60::pI v62::pI v63::pS v66::pI v68::pI v69::pV (.int .u8 (b71.toNat:Int))::pV (.int .u8 v74)::pS v76::pS v77::pB v79::pI v82::pI v83::pS v86::pI v88::pI v89::pV (.int .u8 (b91.toNat:Int))::pV (.int .u8 v94)::pS v96::pS v97::pB v99::[]) []) (C:=((1000003,.call ⟨9,[],[],.o (.c (.k (.bool true))),[]⟩) ::
  (1000008,.call ⟨14,[.o (.g [.h 0,.h 1,.h 2,.h 3,.h 4,.h 5,.h 6,.h 7,.h 8]),yh 0],[],yh 19,[]⟩) ::
  (1000012,.call ⟨14,[.o (.g [.h 9,.h 10,.h 11,.h 12,.h 13,.h 14,.h 15,.h 16,.h 17]),yh 0],[],yh 20,[]⟩) ::
  (1000016,.op (.len [9] 3) [yh 19] [] (yh 21)) ::
  (1000017,.bin .eql 3 (yh 21) (LF (.k (.int .i64 0))) (yh 22)) ::
  (10022,.fb 22 false) ::
  (1000020,.op (.len [9] 3) [yh 20] [] (yh 23)) ::
  (1000021,.bin .eql 3 (yh 23) (LF (.k (.int .i64 0))) (yh 24)) ::
  (10024,.fb 24 false) ::
  (1000024,.op (.len [9] 3) [yh 19] [] (yh 25)) ::
  (1000026,.op (.len [9] 3) [yh 20] [] (yh 26)) ::
  (1000027,.op (.min [3,3] 3) [yh 25,yh 26] [] (yh 27)) ::
  (1000031,.op (.sc 9 false true false) [yh 19,yh 27] [] (yh 28)) ::
  (1000034,.op (.sc 9 false true false) [yh 20,yh 27] [] (yh 29)) ::
  (1000035,.bin .eql 9 (yh 28) (yh 29) (yh 30)) ::
  (1000040,.call ⟨28,[.o (.g [.h 0,.h 1,.h 2,.h 3,.h 4,.h 5,.h 6,.h 7,.h 8]),.o (.g [.h 9,.h 10,.h 11,.h 12,.h 13,.h 14,.h 15,.h 16,.h 17]),yh 0],[],yh 31,[]⟩) ::
  (1000041,.bin .neq 4 (yh 30) (yh 31) (yh 32)) ::
  (10032,.fb 32 false) ::
  (1000045,.bin .eql 9 (yh 19) (yh 20) (yh 33)) ::
  (1000050,.call ⟨28,[.o (.g [.h 0,.h 1,.h 2,.h 3,.h 4,.h 5,.h 6,.h 7,.h 8]),.o (.g [.h 9,.h 10,.h 11,.h 12,.h 13,.h 14,.h 15,.h 16,.h 17]),yh 0],[],yh 34,[]⟩) ::
  (1000051,.bin .neq 4 (yh 33) (yh 34) (yh 35)) ::
  (10035,.fb 35 false) ::
  (1000055,.op (.len [9] 3) [yh 19] [] (yh 36)) ::
  (1000056,.bin .sub 3 (yh 36) (LF (.k (.int .i64 1))) (yh 37)) ::
  (1000058,.op (.cv 41 3) [yh 18] [] (yh 38)) ::
  (1000060,.op (.len [9] 3) [yh 19] [] (yh 39)) ::
  (1000061,.bin .rem 3 (yh 38) (yh 39) (yh 40)) ::
  (1000062,.bin .sub 3 (yh 37) (yh 40) (yh 41)) ::
  (1000063,.op (.sc 9 false true false) [yh 19,yh 41] [] (yh 42)) ::
  (1000066,.op (.cv 5 3) [yh 0] [] (yh 43)) ::
  (1000067,.bin .rem 3 (yh 43) (LF (.k (.int .i64 6))) (yh 44)) ::
  (1000068,.call ⟨29,[yh 42,yh 44],[],yh 45,[]⟩) ::
  (1000069,.un .not (yh 45) (yh 46)) ::
  (10046,.fb 46 false) ::
  (1000072,.call ⟨12,[yh 1],[],yh 47,[]⟩) ::
  (1000075,.op (.len [9] 3) [yh 47] [] (yh 48)) ::
  (1000076,.bin .lss 3 (yh 48) (LF (.k (.int .i64 1))) (yh 49)) ::
  (10049,.fb 49 false) ::
  (1000079,.op (.len [9] 3) [yh 47] [] (yh 50)) ::
  (1000080,.bin .gtr 3 (yh 50) (LF (.k (.int .i64 10))) (yh 51)) ::
  (10051,.fb 51 false) ::
  (1000084,.op (.len [9] 3) [yh 47] [] (yh 52)) ::
  (1000085,.bin .eql 3 (yh 52) (LF (.k (.int .i64 1))) (yh 53)) ::
  (1000088,.bin .geq 3 (yh 1) (LF (.k (.int .i64 (-64)))) (yh 54)) ::
  (10054,.fb 54 true) ::
  (1000092,.bin .leq 3 (yh 1) (LF (.k (.int .i64 63))) (yh 55)) ::
  (1000094,.bin .neq 4 (yh 53) (yh 55) (yh 56)) ::
  (10056,.fb 56 false) ::
  (1000100,.op (.len [9] 3) [yh 47] [] (yh 57)) ::
  (1000101,.bin .sub 3 (yh 57) (LF (.k (.int .i64 1))) (yh 58)) ::
  (1000102,.op (.sc 9 false true false) [yh 47,yh 58] [] (yh 59)) ::
  (1000105,.op (.len [9] 3) [yh 47] [] (yh 60)) ::
  (1000106,.bin .sub 3 (yh 60) (LF (.k (.int .i64 1))) (yh 61)) ::
  (1000107,.op (.ix 9) [yh 47,yh 61] [] (yh 62)) ::
  (1000108,.bin .or 5 (yh 62) (LF (.k (.int .u8 128))) (yh 63)) ::
  (1000110,.op (.cv 43 9) [LF (.s 109 0 1 1)] [.bx 109 5 [.h 63]] (yh 64)) ::
  (1000111,.bin .add 9 (yh 59) (yh 64) (yh 65)) ::
  (1000112,.call ⟨29,[yh 65,.o (.c (.k (.int .i64 0)))],[],yh 66,[]⟩) ::
  (10066,.fb 66 true) ::
  (1000117,.op (.len [9] 3) [yh 47] [] (yh 67)) ::
  (1000118,.bin .sub 3 (yh 67) (LF (.k (.int .i64 1))) (yh 68)) ::
  (1000119,.op (.sc 9 false true false) [yh 47,yh 68] [] (yh 69)) ::
  (1000122,.op (.len [9] 3) [yh 47] [] (yh 70)) ::
  (1000123,.bin .sub 3 (yh 70) (LF (.k (.int .i64 1))) (yh 71)) ::
  (1000124,.op (.ix 9) [yh 47,yh 71] [] (yh 72)) ::
  (1000125,.bin .or 5 (yh 72) (LF (.k (.int .u8 128))) (yh 73)) ::
  (1000127,.op (.cv 43 9) [LF (.s 126 0 2 2)] [.bx 126 5 [.h 73,.k (.int .u8 0)]] (yh 74)) ::
  (1000128,.bin .add 9 (yh 69) (yh 74) (yh 75)) ::
  (1000129,.call ⟨29,[yh 75,.o (.c (.k (.int .i64 0)))],[],yh 76,[]⟩)::[]:List (Nat×Ent))) (k:=⟨7,[.o (.g [.h 0,.h 1,.h 2,.h 3,.h 4,.h 5,.h 6,.h 7,.h 8]),.o (.g [.h 9,.h 10,.h 11,.h 12,.h 13,.h 14,.h 15,.h 16,.h 17]),yh 18],[],yh 76,[]⟩) 0 (zf ⟨zb,zb,zb,(zt zo),zb,zb,zb,(zt zx),(zt zo),zb,zb,zb,(zt zo),zb,zb,zb,(zt zx),(zt zo),zb,zb,zb,zb,zb,zb,zb,zb,zb,zb,zb,zb,zb,zb,zb,zb,zb,zb,zb,zb,zb,zb,zb,zb,zb,zb,zb,zb,zb,zb,zb,zb,zb,zb,zb,zb,zb,zb,zb,zb,zb,zb,zb,zb,zb,zb,zb,zb,zb,zb,zb,zb,zb,zb,zb,zb,zb,zb,zb,trivial⟩) ⟨ze (zma hM hTS),
  ze (zp0 hM hTS v_ v_.1 v1 e1 s2),
  ze (zp0 hM hTS w_ v_.1 v3 e3 s4),
  e_op1 (za rfl) (za rfl) (fun W=>by rw [← e5];exact zhL (by kernel_rfl) W),
  e_bin (za rfl) zd (za rfl) (r_cmp (congrArg some e6)),
  e_fbv h7,
  e_op1 (za rfl) (za rfl) (fun W=>by rw [← e8];exact zhL (by kernel_rfl) W),
  e_bin (za rfl) zd (za rfl) (r_cmp (congrArg some e9)),
  e_fbv h10,
  e_op1 (za rfl) (za rfl) (fun W=>by rw [← e11];exact zhL (by kernel_rfl) W),
  e_op1 (za rfl) (za rfl) (fun W=>by rw [← e12];exact zhL (by kernel_rfl) W),
  e_op2 (za rfl) (za rfl) (za rfl) (fun W=>by rw [← e13];exact zmz W),
  e_op2 (za rfl) (za rfl) (za rfl) (fun W=>by rw [← e16];exact zoq (by kernel_rfl) s15 s17 W),
  e_op2 (za rfl) (za rfl) (za rfl) (fun W=>by rw [← e20];exact zoq (by kernel_rfl) s19 s21 W),
  e_bin (za rfl) (za rfl) (za rfl) (fun W X Y=>by rw [← e22];exact r_seq W X Y),
  ze (zsR v_ w_ v_.1 v23 e23),
  e_bin (za rfl) (za rfl) (za rfl) (fun W X Y=>by rw [← e24];exact r_bne (by kernel_rfl) W X Y),
  e_fbv h25,
  e_bin (za rfl) (za rfl) (za rfl) (fun W X Y=>by rw [← e26];exact r_seq W X Y),
  ze (zsR v_ w_ v_.1 v27 e27),
  e_bin (za rfl) (za rfl) (za rfl) (fun W X Y=>by rw [← e28];exact r_bne (by kernel_rfl) W X Y),
  e_fbv h29,
  e_op1 (za rfl) (za rfl) (fun W=>by rw [← e30];exact zhL (by kernel_rfl) W),
  e_bin (za rfl) zd (za rfl) (r_ar (congrArg some e31)),
  e_op1 (za rfl) (za rfl) (fun W=>by rw [← e32];exact r_cvi (by kernel_rfl) (by kernel_rfl) W),
  e_op1 (za rfl) (za rfl) (fun W=>by rw [← e33];exact zhL (by kernel_rfl) W),
  e_bin (za rfl) (za rfl) (za rfl) (r_ar ((zn2 s35).trans (congrArg some e34))),
  e_bin (za rfl) (za rfl) (za rfl) (r_ar (congrArg some e36)),
  e_op2 (za rfl) (za rfl) (za rfl) (fun W=>by rw [← e39];exact zoq (by kernel_rfl) s38 s40 W),
  e_op1 (za rfl) (za rfl) (fun W=>by rw [← e41];exact r_cvi (by kernel_rfl) (by kernel_rfl) W),
  e_bin (za rfl) zd (za rfl) (r_ar ((zn2 (by decide)).trans (congrArg some e42))),
  ze (qR hM hTS v39 v42 v43 e43 s44),
  e_un (za rfl) (za rfl) (fun W=>by rw [← e45];exact r_not W),
  e_fbv h46,
  ze (w_int v_.2.1 v47 e47 s48),
  e_op1 (za rfl) (za rfl) (fun W=>by rw [← e49];exact zhL (by kernel_rfl) W),
  e_bin (za rfl) zd (za rfl) (r_cmp (congrArg some e50)),
  e_fbv h51,
  e_op1 (za rfl) (za rfl) (fun W=>by rw [← e52];exact zhL (by kernel_rfl) W),
  e_bin (za rfl) zd (za rfl) (r_cmp (congrArg some e53)),
  e_fbv h54,
  e_op1 (za rfl) (za rfl) (fun W=>by rw [← e55];exact zhL (by kernel_rfl) W),
  e_bin (za rfl) zd (za rfl) (r_cmp (congrArg some e56)),
  e_bin (za rfl) zd (za rfl) (r_cmp (congrArg some e57)),
  e_fbv h58,
  e_bin (za rfl) zd (za rfl) (r_cmp (congrArg some e59)),
  e_bin (za rfl) (za rfl) (za rfl) (fun W X Y=>by rw [← e60];exact r_bne (by kernel_rfl) W X Y),
  e_fbv h61,
  e_op1 (za rfl) (za rfl) (fun W=>by rw [← e62];exact zhL (by kernel_rfl) W),
  e_bin (za rfl) zd (za rfl) (r_ar (congrArg some e63)),
  e_op2 (za rfl) (za rfl) (za rfl) (fun W=>by rw [← e66];exact zoq (by kernel_rfl) s65 s67 W),
  e_op1 (za rfl) (za rfl) (fun W=>by rw [← e68];exact zhL (by kernel_rfl) W),
  e_bin (za rfl) zd (za rfl) (r_ar (congrArg some e69)),
  e_op2 (za rfl) (za rfl) (za rfl) (r_ix (by kernel_rfl) s72 s73),
  e_bin (za rfl) zd (za rfl) (zL (congrArg some e74)),
  zqW (E:=5) (ps:=[pV (.int .u8 v74)]) (l:=[bI v74]) (by kernel_rfl) (by kernel_rfl) (by kernel_rfl) rfl (zqj (l:=[v74]) ⟨s75,trivial⟩) rfl rfl (by rw [e76];exact za rfl),
  e_bin (za rfl) (za rfl) (za rfl) (fun W X Y=>by rw [← e77];exact r_cat s78 W X Y),
  ze (qR hM hTS v77 (0:Int) v79 e79 s80),
  e_fbv h81,
  e_op1 (za rfl) (za rfl) (fun W=>by rw [← e82];exact zhL (by kernel_rfl) W),
  e_bin (za rfl) zd (za rfl) (r_ar (congrArg some e83)),
  e_op2 (za rfl) (za rfl) (za rfl) (fun W=>by rw [← e86];exact zoq (by kernel_rfl) s85 s87 W),
  e_op1 (za rfl) (za rfl) (fun W=>by rw [← e88];exact zhL (by kernel_rfl) W),
  e_bin (za rfl) zd (za rfl) (r_ar (congrArg some e89)),
  e_op2 (za rfl) (za rfl) (za rfl) (r_ix (by kernel_rfl) s92 s93),
  e_bin (za rfl) zd (za rfl) (zL (congrArg some e94)),
  zqW (E:=5) (ps:=[pV (.int .u8 v94),pV (.int .u8 0)]) (l:=[bI v94,bI (0:Int)]) (by kernel_rfl) (by kernel_rfl) (by kernel_rfl) rfl (zqj (l:=[v94,(0:Int)]) ⟨s95,(by decide),trivial⟩) rfl rfl (by rw [e96];exact za rfl),
  e_bin (za rfl) (za rfl) (za rfl) (fun W X Y=>by rw [← e97];exact r_cat s98 W X Y),
  ze (qR hM hTS v97 (0:Int) v99 e99 s100),
  trivial⟩ mixed (by kernel_rfl))
theorem zsc {w0:World} (v_:Val) (w_:Val) (z:Int) (hM:LM w0) (hTS:LS w0) (v1:(List UInt8)) (v3:(List UInt8)) (v5:Int) (v6:Bool) (v8:Int) (v9:Bool) (v11:Int) (v12:Int) (v13:Int) (n14:Nat) (v16:(List UInt8)) (n18:Nat) (v20:(List UInt8)) (v22:Bool) (v23:Bool) (v24:Bool) (v26:Bool) (v27:Bool) (v28:Bool) (v30:Int) (v31:Int) (v32:Int) (v33:Int) (v34:Int) (v36:Int) (n37:Nat) (v39:(List UInt8)) (v41:Int) (v42:Int) (v43:Bool) (v45:Bool) (v47:(List UInt8)) (v49:Int) (v50:Bool) (v52:Int) (v53:Bool) (v55:Int) (v56:Bool) (v57:Bool) (v59:Bool) (v61:Int) (v62:Int) (n63:Nat) (v65:(List UInt8)) (v67:Int) (v68:Int) (n69:Nat) (b70:UInt8) (v73:Int) (v75:(List UInt8)) (v76:(List UInt8)) (v78:Bool) (v81:Int) (v82:Int) (n83:Nat) (v85:(List UInt8)) (v87:Int) (v88:Int) (n89:Nat) (b90:UInt8) (v93:Int) (v95:(List UInt8)) (v96:(List UInt8)) (v98:Bool) (e1:(byV ((v_.1:Int).tmod 6) v_)=v1) (e3:(byV ((v_.1:Int).tmod 6) w_)=v3) (e5:(((v1:List UInt8).length:Int))=v5) (e6:((v5 == (0:Int)))=v6) (e8:(((v3:List UInt8).length:Int))=v8) (e9:((v8 == (0:Int)))=v9) (e11:(((v1:List UInt8).length:Int))=v11) (e12:(((v3:List UInt8).length:Int))=v12) (e13:((if v12<v11 then v12 else v11))=v13) (e16:((v1:List UInt8).take n14)=v16) (e20:((v3:List UInt8).take n18)=v20) (e22:(((v16:List UInt8) == v20))=v22) (e23:(samV ((v_.1:Int).tmod 6) v_ w_)=v23) (e24:(!(v22 == v23))=v24) (e26:(((v1:List UInt8) == v3))=v26) (e27:(samV ((v_.1:Int).tmod 6) v_ w_)=v27) (e28:(!(v26 == v27))=v28) (e30:(((v1:List UInt8).length:Int))=v30) (e31:(IntKind.i64.wrap (v30 - (1:Int)))=v31) (e32:(IntKind.i64.wrap z)=v32) (e33:(((v1:List UInt8).length:Int))=v33) (e34:((v32:Int).tmod v33)=v34) (e36:(IntKind.i64.wrap (v31 - v34))=v36) (e39:((v1:List UInt8).take n37)=v39) (e41:(IntKind.i64.wrap v_.1)=v41) (e42:((v41:Int).tmod (6:Int))=v42) (e43:(malB v39 v42)=v43) (e45:(!v43)=v45) (e47:(encI v_.2.1)=v47) (e49:(((v47:List UInt8).length:Int))=v49) (e50:(decide (v49<(1:Int)))=v50) (e52:(((v47:List UInt8).length:Int))=v52) (e53:(decide (v52 > (10:Int)))=v53) (e55:(((v47:List UInt8).length:Int))=v55) (e56:((v55 == (1:Int)))=v56) (e57:(decide (v_.2.1 ≥ (-64:Int)))=v57) (e59:(!(v56 == false))=v59) (e61:(((v47:List UInt8).length:Int))=v61) (e62:(IntKind.i64.wrap (v61 - (1:Int)))=v62) (e65:((v47:List UInt8).take n63)=v65) (e67:(((v47:List UInt8).length:Int))=v67) (e68:(IntKind.i64.wrap (v67 - (1:Int)))=v68) (e73:(IntKind.u8.wrap (BitVec.ofInt IntKind.u8.bits (b70.toNat:Int) ||| BitVec.ofInt IntKind.u8.bits (128:Int)).toNat)=v73) (e75:([bI v73])=v75) (e76:(v65++v75)=v76) (e78:(malB v76 (0:Int))=v78) (e81:(((v47:List UInt8).length:Int))=v81) (e82:(IntKind.i64.wrap (v81 - (1:Int)))=v82) (e85:((v47:List UInt8).take n83)=v85) (e87:(((v47:List UInt8).length:Int))=v87) (e88:(IntKind.i64.wrap (v87 - (1:Int)))=v88) (e93:(IntKind.u8.wrap (BitVec.ofInt IntKind.u8.bits (b90.toNat:Int) ||| BitVec.ofInt IntKind.u8.bits (128:Int)).toNat)=v93) (e95:([bI v93,bI (0:Int)])=v95) (e96:(v85++v95)=v96) (e98:(malB v96 (0:Int))=v98) (s2:OkV v_) (s4:OkV w_) (h7:v6=false) (h10:v9=false) (s15:v13=(n14:Int)) (s17:n14≤(v1:List UInt8).length) (s19:v13=(n18:Int)) (s21:n18≤(v3:List UInt8).length) (h25:v24=false) (h29:v28=false) (s35:v33≠0) (s38:v36=(n37:Int)) (s40:n37≤(v1:List UInt8).length) (s44:(v39:List UInt8).length≤1000000) (h46:v45=false) (s48:InI v_.2.1) (h51:v50=false) (h54:v53=false) (h58:v57=false) (h60:v59=false) (s64:v62=(n63:Int)) (s66:n63≤(v47:List UInt8).length) (s71:v68=(n69:Int)) (s72:(v47:List UInt8)[n69]?=some b70) (s74:0≤v73∧v73<256) (s77:(((v65:List UInt8).length+(v75:List UInt8).length:Nat):Int)≤9223372036854775807) (s79:(v76:List UInt8).length≤1000000) (h80:v78=true) (s84:v82=(n83:Int)) (s86:n83≤(v47:List UInt8).length) (s91:v88=(n89:Int)) (s92:(v47:List UInt8)[n89]?=some b90) (s94:0≤v93∧v93<256) (s97:(((v85:List UInt8).length+(v95:List UInt8).length:Nat):Int)≤9223372036854775807) (s99:(v96:List UInt8).length≤1000000):Fun (KN w0) Tryz.prog 7 [.o (.g [pV (.int .u8 v_.1),pI v_.2.1,pS v_.2.2.1,pLs cI v_.2.2.2.1,pI v_.2.2.2.2.1.1,pI v_.2.2.2.2.1.2.1,pI v_.2.2.2.2.1.2.2,pLs cPl v_.2.2.2.2.2.1,pLs cI v_.2.2.2.2.2.2]),.o (.g [pV (.int .u8 w_.1),pI w_.2.1,pS w_.2.2.1,pLs cI w_.2.2.2.1,pI w_.2.2.2.2.1.1,pI w_.2.2.2.2.1.2.1,pI w_.2.2.2.2.1.2.2,pLs cPl w_.2.2.2.2.2.1,pLs cI w_.2.2.2.2.2.2]),.o (.c (pV (.int .u16 z)))] (.o (.c (pB v98))):=
 zi (zl (F:=FL (pV (.int .u8 v_.1)::pI v_.2.1::pS v_.2.2.1::pLs cI v_.2.2.2.1::pI v_.2.2.2.2.1.1::pI v_.2.2.2.2.1.2.1::pI v_.2.2.2.2.1.2.2::pLs cPl v_.2.2.2.2.2.1::pLs cI v_.2.2.2.2.2.2::pV (.int .u8 w_.1)::pI w_.2.1::pS w_.2.2.1::pLs cI w_.2.2.2.1::pI w_.2.2.2.2.1.1::pI w_.2.2.2.2.1.2.1::pI w_.2.2.2.2.1.2.2::pLs cPl w_.2.2.2.2.2.1::pLs cI w_.2.2.2.2.2.2::pV (.int .u16 z)::pS v1::pS v3::pI v5::pB v6::pI v8::pB v9::pI v11::pI v12::pI v13::pS v16::pS v20::pB v22::pB v23::pB v24::pB v26::pB v27::pB v28::pI v30::pI v31::pI v32::pI v33::pI v34::pI v36::pS v39::pI v41::pI v42::pB v43::pB v45::pS v47::pI v49::pB v50::pI v52::pB v53::pI v55::pB v56::pB v57::pB v59::pI v61::pI v62::pS v65::pI v67::pI v68::pV (.int .u8 (b70.toNat:Int))::pV (.int .u8 v73)::pS v75::pS v76::pB v78::pI v81::pI v82::pS v85::pI v87::pI v88::pV (.int .u8 (b90.toNat:Int))::pV (.int .u8 v93)::pS v95::pS v96::pB v98::[]) []) (C:=((1000003,.call ⟨9,[],[],.o (.c (.k (.bool true))),[]⟩) ::
  (1000008,.call ⟨14,[.o (.g [.h 0,.h 1,.h 2,.h 3,.h 4,.h 5,.h 6,.h 7,.h 8]),yh 0],[],yh 19,[]⟩) ::
  (1000012,.call ⟨14,[.o (.g [.h 9,.h 10,.h 11,.h 12,.h 13,.h 14,.h 15,.h 16,.h 17]),yh 0],[],yh 20,[]⟩) ::
  (1000016,.op (.len [9] 3) [yh 19] [] (yh 21)) ::
  (1000017,.bin .eql 3 (yh 21) (LF (.k (.int .i64 0))) (yh 22)) ::
  (10022,.fb 22 false) ::
  (1000020,.op (.len [9] 3) [yh 20] [] (yh 23)) ::
  (1000021,.bin .eql 3 (yh 23) (LF (.k (.int .i64 0))) (yh 24)) ::
  (10024,.fb 24 false) ::
  (1000024,.op (.len [9] 3) [yh 19] [] (yh 25)) ::
  (1000026,.op (.len [9] 3) [yh 20] [] (yh 26)) ::
  (1000027,.op (.min [3,3] 3) [yh 25,yh 26] [] (yh 27)) ::
  (1000031,.op (.sc 9 false true false) [yh 19,yh 27] [] (yh 28)) ::
  (1000034,.op (.sc 9 false true false) [yh 20,yh 27] [] (yh 29)) ::
  (1000035,.bin .eql 9 (yh 28) (yh 29) (yh 30)) ::
  (1000040,.call ⟨28,[.o (.g [.h 0,.h 1,.h 2,.h 3,.h 4,.h 5,.h 6,.h 7,.h 8]),.o (.g [.h 9,.h 10,.h 11,.h 12,.h 13,.h 14,.h 15,.h 16,.h 17]),yh 0],[],yh 31,[]⟩) ::
  (1000041,.bin .neq 4 (yh 30) (yh 31) (yh 32)) ::
  (10032,.fb 32 false) ::
  (1000045,.bin .eql 9 (yh 19) (yh 20) (yh 33)) ::
  (1000050,.call ⟨28,[.o (.g [.h 0,.h 1,.h 2,.h 3,.h 4,.h 5,.h 6,.h 7,.h 8]),.o (.g [.h 9,.h 10,.h 11,.h 12,.h 13,.h 14,.h 15,.h 16,.h 17]),yh 0],[],yh 34,[]⟩) ::
  (1000051,.bin .neq 4 (yh 33) (yh 34) (yh 35)) ::
  (10035,.fb 35 false) ::
  (1000055,.op (.len [9] 3) [yh 19] [] (yh 36)) ::
  (1000056,.bin .sub 3 (yh 36) (LF (.k (.int .i64 1))) (yh 37)) ::
  (1000058,.op (.cv 41 3) [yh 18] [] (yh 38)) ::
  (1000060,.op (.len [9] 3) [yh 19] [] (yh 39)) ::
  (1000061,.bin .rem 3 (yh 38) (yh 39) (yh 40)) ::
  (1000062,.bin .sub 3 (yh 37) (yh 40) (yh 41)) ::
  (1000063,.op (.sc 9 false true false) [yh 19,yh 41] [] (yh 42)) ::
  (1000066,.op (.cv 5 3) [yh 0] [] (yh 43)) ::
  (1000067,.bin .rem 3 (yh 43) (LF (.k (.int .i64 6))) (yh 44)) ::
  (1000068,.call ⟨29,[yh 42,yh 44],[],yh 45,[]⟩) ::
  (1000069,.un .not (yh 45) (yh 46)) ::
  (10046,.fb 46 false) ::
  (1000072,.call ⟨12,[yh 1],[],yh 47,[]⟩) ::
  (1000075,.op (.len [9] 3) [yh 47] [] (yh 48)) ::
  (1000076,.bin .lss 3 (yh 48) (LF (.k (.int .i64 1))) (yh 49)) ::
  (10049,.fb 49 false) ::
  (1000079,.op (.len [9] 3) [yh 47] [] (yh 50)) ::
  (1000080,.bin .gtr 3 (yh 50) (LF (.k (.int .i64 10))) (yh 51)) ::
  (10051,.fb 51 false) ::
  (1000084,.op (.len [9] 3) [yh 47] [] (yh 52)) ::
  (1000085,.bin .eql 3 (yh 52) (LF (.k (.int .i64 1))) (yh 53)) ::
  (1000088,.bin .geq 3 (yh 1) (LF (.k (.int .i64 (-64)))) (yh 54)) ::
  (10054,.fb 54 false) ::
  (1000094,.bin .neq 4 (yh 53) (LF (.k (.bool false))) (yh 55)) ::
  (10055,.fb 55 false) ::
  (1000100,.op (.len [9] 3) [yh 47] [] (yh 56)) ::
  (1000101,.bin .sub 3 (yh 56) (LF (.k (.int .i64 1))) (yh 57)) ::
  (1000102,.op (.sc 9 false true false) [yh 47,yh 57] [] (yh 58)) ::
  (1000105,.op (.len [9] 3) [yh 47] [] (yh 59)) ::
  (1000106,.bin .sub 3 (yh 59) (LF (.k (.int .i64 1))) (yh 60)) ::
  (1000107,.op (.ix 9) [yh 47,yh 60] [] (yh 61)) ::
  (1000108,.bin .or 5 (yh 61) (LF (.k (.int .u8 128))) (yh 62)) ::
  (1000110,.op (.cv 43 9) [LF (.s 109 0 1 1)] [.bx 109 5 [.h 62]] (yh 63)) ::
  (1000111,.bin .add 9 (yh 58) (yh 63) (yh 64)) ::
  (1000112,.call ⟨29,[yh 64,.o (.c (.k (.int .i64 0)))],[],yh 65,[]⟩) ::
  (10065,.fb 65 true) ::
  (1000117,.op (.len [9] 3) [yh 47] [] (yh 66)) ::
  (1000118,.bin .sub 3 (yh 66) (LF (.k (.int .i64 1))) (yh 67)) ::
  (1000119,.op (.sc 9 false true false) [yh 47,yh 67] [] (yh 68)) ::
  (1000122,.op (.len [9] 3) [yh 47] [] (yh 69)) ::
  (1000123,.bin .sub 3 (yh 69) (LF (.k (.int .i64 1))) (yh 70)) ::
  (1000124,.op (.ix 9) [yh 47,yh 70] [] (yh 71)) ::
  (1000125,.bin .or 5 (yh 71) (LF (.k (.int .u8 128))) (yh 72)) ::
  (1000127,.op (.cv 43 9) [LF (.s 126 0 2 2)] [.bx 126 5 [.h 72,.k (.int .u8 0)]] (yh 73)) ::
  (1000128,.bin .add 9 (yh 68) (yh 73) (yh 74)) ::
  (1000129,.call ⟨29,[yh 74,.o (.c (.k (.int .i64 0)))],[],yh 75,[]⟩)::[]:List (Nat×Ent))) (k:=⟨7,[.o (.g [.h 0,.h 1,.h 2,.h 3,.h 4,.h 5,.h 6,.h 7,.h 8]),.o (.g [.h 9,.h 10,.h 11,.h 12,.h 13,.h 14,.h 15,.h 16,.h 17]),yh 18],[],yh 75,[]⟩) 0 (zf ⟨zb,zb,zb,(zt zo),zb,zb,zb,(zt zx),(zt zo),zb,zb,zb,(zt zo),zb,zb,zb,(zt zx),(zt zo),zb,zb,zb,zb,zb,zb,zb,zb,zb,zb,zb,zb,zb,zb,zb,zb,zb,zb,zb,zb,zb,zb,zb,zb,zb,zb,zb,zb,zb,zb,zb,zb,zb,zb,zb,zb,zb,zb,zb,zb,zb,zb,zb,zb,zb,zb,zb,zb,zb,zb,zb,zb,zb,zb,zb,zb,zb,zb,trivial⟩) ⟨ze (zma hM hTS),
  ze (zp0 hM hTS v_ v_.1 v1 e1 s2),
  ze (zp0 hM hTS w_ v_.1 v3 e3 s4),
  e_op1 (za rfl) (za rfl) (fun W=>by rw [← e5];exact zhL (by kernel_rfl) W),
  e_bin (za rfl) zd (za rfl) (r_cmp (congrArg some e6)),
  e_fbv h7,
  e_op1 (za rfl) (za rfl) (fun W=>by rw [← e8];exact zhL (by kernel_rfl) W),
  e_bin (za rfl) zd (za rfl) (r_cmp (congrArg some e9)),
  e_fbv h10,
  e_op1 (za rfl) (za rfl) (fun W=>by rw [← e11];exact zhL (by kernel_rfl) W),
  e_op1 (za rfl) (za rfl) (fun W=>by rw [← e12];exact zhL (by kernel_rfl) W),
  e_op2 (za rfl) (za rfl) (za rfl) (fun W=>by rw [← e13];exact zmz W),
  e_op2 (za rfl) (za rfl) (za rfl) (fun W=>by rw [← e16];exact zoq (by kernel_rfl) s15 s17 W),
  e_op2 (za rfl) (za rfl) (za rfl) (fun W=>by rw [← e20];exact zoq (by kernel_rfl) s19 s21 W),
  e_bin (za rfl) (za rfl) (za rfl) (fun W X Y=>by rw [← e22];exact r_seq W X Y),
  ze (zsR v_ w_ v_.1 v23 e23),
  e_bin (za rfl) (za rfl) (za rfl) (fun W X Y=>by rw [← e24];exact r_bne (by kernel_rfl) W X Y),
  e_fbv h25,
  e_bin (za rfl) (za rfl) (za rfl) (fun W X Y=>by rw [← e26];exact r_seq W X Y),
  ze (zsR v_ w_ v_.1 v27 e27),
  e_bin (za rfl) (za rfl) (za rfl) (fun W X Y=>by rw [← e28];exact r_bne (by kernel_rfl) W X Y),
  e_fbv h29,
  e_op1 (za rfl) (za rfl) (fun W=>by rw [← e30];exact zhL (by kernel_rfl) W),
  e_bin (za rfl) zd (za rfl) (r_ar (congrArg some e31)),
  e_op1 (za rfl) (za rfl) (fun W=>by rw [← e32];exact r_cvi (by kernel_rfl) (by kernel_rfl) W),
  e_op1 (za rfl) (za rfl) (fun W=>by rw [← e33];exact zhL (by kernel_rfl) W),
  e_bin (za rfl) (za rfl) (za rfl) (r_ar ((zn2 s35).trans (congrArg some e34))),
  e_bin (za rfl) (za rfl) (za rfl) (r_ar (congrArg some e36)),
  e_op2 (za rfl) (za rfl) (za rfl) (fun W=>by rw [← e39];exact zoq (by kernel_rfl) s38 s40 W),
  e_op1 (za rfl) (za rfl) (fun W=>by rw [← e41];exact r_cvi (by kernel_rfl) (by kernel_rfl) W),
  e_bin (za rfl) zd (za rfl) (r_ar ((zn2 (by decide)).trans (congrArg some e42))),
  ze (qR hM hTS v39 v42 v43 e43 s44),
  e_un (za rfl) (za rfl) (fun W=>by rw [← e45];exact r_not W),
  e_fbv h46,
  ze (w_int v_.2.1 v47 e47 s48),
  e_op1 (za rfl) (za rfl) (fun W=>by rw [← e49];exact zhL (by kernel_rfl) W),
  e_bin (za rfl) zd (za rfl) (r_cmp (congrArg some e50)),
  e_fbv h51,
  e_op1 (za rfl) (za rfl) (fun W=>by rw [← e52];exact zhL (by kernel_rfl) W),
  e_bin (za rfl) zd (za rfl) (r_cmp (congrArg some e53)),
  e_fbv h54,
  e_op1 (za rfl) (za rfl) (fun W=>by rw [← e55];exact zhL (by kernel_rfl) W),
  e_bin (za rfl) zd (za rfl) (r_cmp (congrArg some e56)),
  e_bin (za rfl) zd (za rfl) (r_cmp (congrArg some e57)),
  e_fbv h58,
  e_bin (za rfl) zd (za rfl) (fun W X Y=>by rw [← e59];exact r_bne (by kernel_rfl) W X Y),
  e_fbv h60,
  e_op1 (za rfl) (za rfl) (fun W=>by rw [← e61];exact zhL (by kernel_rfl) W),
  e_bin (za rfl) zd (za rfl) (r_ar (congrArg some e62)),
  e_op2 (za rfl) (za rfl) (za rfl) (fun W=>by rw [← e65];exact zoq (by kernel_rfl) s64 s66 W),
  e_op1 (za rfl) (za rfl) (fun W=>by rw [← e67];exact zhL (by kernel_rfl) W),
  e_bin (za rfl) zd (za rfl) (r_ar (congrArg some e68)),
  e_op2 (za rfl) (za rfl) (za rfl) (r_ix (by kernel_rfl) s71 s72),
  e_bin (za rfl) zd (za rfl) (zL (congrArg some e73)),
  zqW (E:=5) (ps:=[pV (.int .u8 v73)]) (l:=[bI v73]) (by kernel_rfl) (by kernel_rfl) (by kernel_rfl) rfl (zqj (l:=[v73]) ⟨s74,trivial⟩) rfl rfl (by rw [e75];exact za rfl),
  e_bin (za rfl) (za rfl) (za rfl) (fun W X Y=>by rw [← e76];exact r_cat s77 W X Y),
  ze (qR hM hTS v76 (0:Int) v78 e78 s79),
  e_fbv h80,
  e_op1 (za rfl) (za rfl) (fun W=>by rw [← e81];exact zhL (by kernel_rfl) W),
  e_bin (za rfl) zd (za rfl) (r_ar (congrArg some e82)),
  e_op2 (za rfl) (za rfl) (za rfl) (fun W=>by rw [← e85];exact zoq (by kernel_rfl) s84 s86 W),
  e_op1 (za rfl) (za rfl) (fun W=>by rw [← e87];exact zhL (by kernel_rfl) W),
  e_bin (za rfl) zd (za rfl) (r_ar (congrArg some e88)),
  e_op2 (za rfl) (za rfl) (za rfl) (r_ix (by kernel_rfl) s91 s92),
  e_bin (za rfl) zd (za rfl) (zL (congrArg some e93)),
  zqW (E:=5) (ps:=[pV (.int .u8 v93),pV (.int .u8 0)]) (l:=[bI v93,bI (0:Int)]) (by kernel_rfl) (by kernel_rfl) (by kernel_rfl) rfl (zqj (l:=[v93,(0:Int)]) ⟨s94,(by decide),trivial⟩) rfl rfl (by rw [e95];exact za rfl),
  e_bin (za rfl) (za rfl) (za rfl) (fun W X Y=>by rw [← e96];exact r_cat s97 W X Y),
  ze (qR hM hTS v96 (0:Int) v98 e98 s99),
  trivial⟩ mixed (by kernel_rfl))
theorem zp6 (v_:Val) (w_:Val) (z:Int) (hv:OkV v_) (hw:OkV w_) (hz:0≤z∧z<65536) :OkV v_:=by exact hv
theorem zp7 (v_:Val) (w_:Val) (z:Int) (hv:OkV v_) (hw:OkV w_) (hz:0≤z∧z<65536) :OkV w_:=by exact hw
theorem zp8 (v_:Val) (w_:Val) (z:Int) (hv:OkV v_) (hw:OkV w_) (hz:0≤z∧z<65536) :(((((((byV ((v_.1:Int).tmod 6) v_):List UInt8).length:Int)) == (0:Int))))=false:=by (have q1:=zqk (v_.1.tmod 6) v_;have q2:=zqk (v_.1.tmod 6) w_;rw [beq_eq_false_iff_ne];omega)
theorem zp9 (v_:Val) (w_:Val) (z:Int) (hv:OkV v_) (hw:OkV w_) (hz:0≤z∧z<65536) :(((((((byV ((v_.1:Int).tmod 6) w_):List UInt8).length:Int)) == (0:Int))))=false:=by (have q1:=zqk (v_.1.tmod 6) v_;have q2:=zqk (v_.1.tmod 6) w_;rw [beq_eq_false_iff_ne];omega)
theorem zph (v_:Val) (w_:Val) (z:Int) (hv:OkV v_) (hw:OkV w_) (hz:0≤z∧z<65536) :((if ((((byV ((v_.1:Int).tmod 6) w_):List UInt8).length:Int))<((((byV ((v_.1:Int).tmod 6) v_):List UInt8).length:Int)) then ((((byV ((v_.1:Int).tmod 6) w_):List UInt8).length:Int)) else ((((byV ((v_.1:Int).tmod 6) v_):List UInt8).length:Int))))=(((min (byV ((v_.1:Int).tmod 6) w_).length (byV ((v_.1:Int).tmod 6) v_).length:Nat)):Int):=by split<;>omega
theorem zqa (v_:Val) (w_:Val) (z:Int) (hv:OkV v_) (hw:OkV w_) (hz:0≤z∧z<65536) :((min (byV ((v_.1:Int).tmod 6) w_).length (byV ((v_.1:Int).tmod 6) v_).length:Nat))≤((byV ((v_.1:Int).tmod 6) v_):List UInt8).length:=by omega
theorem zqb (v_:Val) (w_:Val) (z:Int) (hv:OkV v_) (hw:OkV w_) (hz:0≤z∧z<65536) :((min (byV ((v_.1:Int).tmod 6) w_).length (byV ((v_.1:Int).tmod 6) v_).length:Nat))≤((byV ((v_.1:Int).tmod 6) w_):List UInt8).length:=by omega
theorem zqc (v_:Val) (w_:Val) (z:Int) (hv:OkV v_) (hw:OkV w_) (hz:0≤z∧z<65536) :((!(((((((byV ((v_.1:Int).tmod 6) v_):List UInt8).take ((min (byV ((v_.1:Int).tmod 6) w_).length (byV ((v_.1:Int).tmod 6) v_).length:Nat))):List UInt8) == (((byV ((v_.1:Int).tmod 6) w_):List UInt8).take ((min (byV ((v_.1:Int).tmod 6) w_).length (byV ((v_.1:Int).tmod 6) v_).length:Nat))))) == (samV ((v_.1:Int).tmod 6) v_ w_))))=false:=by (rw [zwl hv hw];simp)
theorem zqd (v_:Val) (w_:Val) (z:Int) (hv:OkV v_) (hw:OkV w_) (hz:0≤z∧z<65536) :((!(((((byV ((v_.1:Int).tmod 6) v_):List UInt8) == (byV ((v_.1:Int).tmod 6) w_))) == (samV ((v_.1:Int).tmod 6) v_ w_))))=false:=by (rw [by_eq hv hw];simp)
theorem zqe (v_:Val) (w_:Val) (z:Int) (hv:OkV v_) (hw:OkV w_) (hz:0≤z∧z<65536) :((((byV ((v_.1:Int).tmod 6) v_):List UInt8).length:Int))≠0:=by (have q1:=zqk (v_.1.tmod 6) v_;omega)
theorem zpI (v_:Val) (w_:Val) (z:Int) (hv:OkV v_) (hw:OkV w_) (hz:0≤z∧z<65536) :(IntKind.i64.wrap ((IntKind.i64.wrap (((((byV ((v_.1:Int).tmod 6) v_):List UInt8).length:Int)) - (1:Int))) - (((IntKind.i64.wrap z):Int).tmod ((((byV ((v_.1:Int).tmod 6) v_):List UInt8).length:Int)))))=((((byV ((v_.1:Int).tmod 6) v_).length - 1 - z.toNat%(byV ((v_.1:Int).tmod 6) v_).length:Nat)):Int):=by exact zvy (zqk _ _) (zsy _ hv) hz
theorem zpJ (v_:Val) (w_:Val) (z:Int) (hv:OkV v_) (hw:OkV w_) (hz:0≤z∧z<65536) :(((byV ((v_.1:Int).tmod 6) v_).length - 1 - z.toNat%(byV ((v_.1:Int).tmod 6) v_).length:Nat))≤((byV ((v_.1:Int).tmod 6) v_):List UInt8).length:=by omega
theorem zpK (v_:Val) (w_:Val) (z:Int) (hv:OkV v_) (hw:OkV w_) (hz:0≤z∧z<65536) :((((byV ((v_.1:Int).tmod 6) v_):List UInt8).take (((byV ((v_.1:Int).tmod 6) v_).length - 1 - z.toNat%(byV ((v_.1:Int).tmod 6) v_).length:Nat))):List UInt8).length≤1000000:=by (rw [List.length_take];have q:=zsy (v_.1.tmod 6) hv;omega)
theorem zpL (v_:Val) (w_:Val) (z:Int) (hv:OkV v_) (hw:OkV w_) (hz:0≤z∧z<65536) :((!(malB (((byV ((v_.1:Int).tmod 6) v_):List UInt8).take (((byV ((v_.1:Int).tmod 6) v_).length - 1 - z.toNat%(byV ((v_.1:Int).tmod 6) v_).length:Nat))) (((IntKind.i64.wrap v_.1):Int).tmod (6:Int)))))=false:=by (have q1:=zqk (v_.1.tmod 6) v_;rw [zu1 hv (by omega)];rfl)
theorem zpM (v_:Val) (w_:Val) (z:Int) (hv:OkV v_) (hw:OkV w_) (hz:0≤z∧z<65536) :InI v_.2.1:=by exact hv.n
theorem zpN (v_:Val) (w_:Val) (z:Int) (hv:OkV v_) (hw:OkV w_) (hz:0≤z∧z<65536) :((decide (((((encI v_.2.1):List UInt8).length:Int))<(1:Int))))=false:=by (have hl:=zr hv.n;have hp:0<(encI v_.2.1).length:=zwP _;exact decide_eq_false (by omega))
theorem zpO (v_:Val) (w_:Val) (z:Int) (hv:OkV v_) (hw:OkV w_) (hz:0≤z∧z<65536) :((decide (((((encI v_.2.1):List UInt8).length:Int)) > (10:Int))))=false:=by (have hl:=zr hv.n;have hp:0<(encI v_.2.1).length:=zwP _;exact decide_eq_false (by omega))
theorem zru (v_:Val) (w_:Val) (z:Int) (hv:OkV v_) (hw:OkV w_) (hz:0≤z∧z<65536) (d1:((decide (v_.2.1 ≥ (-64:Int))))=true):((!(((((((encI v_.2.1):List UInt8).length:Int)) == (1:Int))) == (decide (v_.2.1≤(63:Int))))))=false:=by (rw [zuZ d1];simp)
theorem zpd (v_:Val) (w_:Val) (z:Int) (hv:OkV v_) (hw:OkV w_) (hz:0≤z∧z<65536) :(IntKind.i64.wrap (((((encI v_.2.1):List UInt8).length:Int)) - (1:Int)))=((((encI v_.2.1).length - 1:Nat)):Int):=by (have hl:=zr hv.n;have hp:0<(encI v_.2.1).length:=zwP _;rw [wri (by omega)];omega)
theorem zpP (v_:Val) (w_:Val) (z:Int) (hv:OkV v_) (hw:OkV w_) (hz:0≤z∧z<65536) :(((encI v_.2.1).length - 1:Nat))≤((encI v_.2.1):List UInt8).length:=by (have hl:=zr hv.n;have hp:0<(encI v_.2.1).length:=zwP _;omega)
theorem zpQ (v_:Val) (w_:Val) (z:Int) (hv:OkV v_) (hw:OkV w_) (hz:0≤z∧z<65536) :((encI v_.2.1):List UInt8)[(((encI v_.2.1).length - 1:Nat))]?=some ((encI v_.2.1).getLast (zgr v_.2.1)):=by exact ztY _
theorem zpR (v_:Val) (w_:Val) (z:Int) (hv:OkV v_) (hw:OkV w_) (hz:0≤z∧z<65536) :0≤(IntKind.u8.wrap (BitVec.ofInt IntKind.u8.bits (((encI v_.2.1).getLast (zgr v_.2.1)).toNat:Int) ||| BitVec.ofInt IntKind.u8.bits (128:Int)).toNat)∧(IntKind.u8.wrap (BitVec.ofInt IntKind.u8.bits (((encI v_.2.1).getLast (zgr v_.2.1)).toNat:Int) ||| BitVec.ofInt IntKind.u8.bits (128:Int)).toNat)<256:=by (rw [zrk];omega)
theorem zrv (v_:Val) (w_:Val) (z:Int) (hv:OkV v_) (hw:OkV w_) (hz:0≤z∧z<65536) :((((((encI v_.2.1):List UInt8).take (((encI v_.2.1).length - 1:Nat))):List UInt8).length+(([bI (IntKind.u8.wrap (BitVec.ofInt IntKind.u8.bits (((encI v_.2.1).getLast (zgr v_.2.1)).toNat:Int) ||| BitVec.ofInt IntKind.u8.bits (128:Int)).toNat)]):List UInt8).length:Nat):Int)≤9223372036854775807:=by (have hl:=zr hv.n;have hp:0<(encI v_.2.1).length:=zwP _;simp only [List.length_append,List.length_take,List.length_cons,List.length_nil];omega)
theorem zrw (v_:Val) (w_:Val) (z:Int) (hv:OkV v_) (hw:OkV w_) (hz:0≤z∧z<65536) :(((((encI v_.2.1):List UInt8).take (((encI v_.2.1).length - 1:Nat)))++([bI (IntKind.u8.wrap (BitVec.ofInt IntKind.u8.bits (((encI v_.2.1).getLast (zgr v_.2.1)).toNat:Int) ||| BitVec.ofInt IntKind.u8.bits (128:Int)).toNat)])):List UInt8).length≤1000000:=by (have hl:=zr hv.n;have hp:0<(encI v_.2.1).length:=zwP _;simp only [List.length_append,List.length_take,List.length_cons,List.length_nil];omega)
theorem zrx (v_:Val) (w_:Val) (z:Int) (hv:OkV v_) (hw:OkV w_) (hz:0≤z∧z<65536) :((malB ((((encI v_.2.1):List UInt8).take (((encI v_.2.1).length - 1:Nat)))++([bI (IntKind.u8.wrap (BitVec.ofInt IntKind.u8.bits (((encI v_.2.1).getLast (zgr v_.2.1)).toNat:Int) ||| BitVec.ofInt IntKind.u8.bits (128:Int)).toNat)])) (0:Int)))=true:=by exact zsK _ _
theorem zry (v_:Val) (w_:Val) (z:Int) (hv:OkV v_) (hw:OkV w_) (hz:0≤z∧z<65536) :((((((encI v_.2.1):List UInt8).take (((encI v_.2.1).length - 1:Nat))):List UInt8).length+(([bI (IntKind.u8.wrap (BitVec.ofInt IntKind.u8.bits (((encI v_.2.1).getLast (zgr v_.2.1)).toNat:Int) ||| BitVec.ofInt IntKind.u8.bits (128:Int)).toNat),bI (0:Int)]):List UInt8).length:Nat):Int)≤9223372036854775807:=by (have hl:=zr hv.n;have hp:0<(encI v_.2.1).length:=zwP _;simp only [List.length_append,List.length_take,List.length_cons,List.length_nil];omega)
theorem zrz (v_:Val) (w_:Val) (z:Int) (hv:OkV v_) (hw:OkV w_) (hz:0≤z∧z<65536) :(((((encI v_.2.1):List UInt8).take (((encI v_.2.1).length - 1:Nat)))++([bI (IntKind.u8.wrap (BitVec.ofInt IntKind.u8.bits (((encI v_.2.1).getLast (zgr v_.2.1)).toNat:Int) ||| BitVec.ofInt IntKind.u8.bits (128:Int)).toNat),bI (0:Int)])):List UInt8).length≤1000000:=by (have hl:=zr hv.n;have hp:0<(encI v_.2.1).length:=zwP _;simp only [List.length_append,List.length_take,List.length_cons,List.length_nil];omega)
theorem zrA (v_:Val) (w_:Val) (z:Int) (hv:OkV v_) (hw:OkV w_) (hz:0≤z∧z<65536) :malB ((((encI v_.2.1):List UInt8).take (((encI v_.2.1).length - 1:Nat)))++([bI (IntKind.u8.wrap (BitVec.ofInt IntKind.u8.bits (((encI v_.2.1).getLast (zgr v_.2.1)).toNat:Int) ||| BitVec.ofInt IntKind.u8.bits (128:Int)).toNat),bI (0:Int)])) (0:Int)=true:=by exact zsL _ _
theorem zrB (v_:Val) (w_:Val) (z:Int) (hv:OkV v_) (hw:OkV w_) (hz:0≤z∧z<65536) (d1:((decide (v_.2.1 ≥ (-64:Int))))=false):((!(((((((encI v_.2.1):List UInt8).length:Int)) == (1:Int))) == false)))=false:=by (rw [zwr d1];rfl)
theorem zuD {w0:World} (hM:LM w0) (hTS:LS w0) (v_:Val) (w_:Val) (z:Int) (hv:OkV v_) (hw:OkV w_) (hz:0≤z∧z<65536):Fun (KN w0) Tryz.prog 7 [.o (.g [pV (.int .u8 v_.1),pI v_.2.1,pS v_.2.2.1,pLs cI v_.2.2.2.1,pI v_.2.2.2.2.1.1,pI v_.2.2.2.2.1.2.1,pI v_.2.2.2.2.1.2.2,pLs cPl v_.2.2.2.2.2.1,pLs cI v_.2.2.2.2.2.2]),.o (.g [pV (.int .u8 w_.1),pI w_.2.1,pS w_.2.2.1,pLs cI w_.2.2.2.1,pI w_.2.2.2.2.1.1,pI w_.2.2.2.2.1.2.1,pI w_.2.2.2.2.1.2.2,pLs cPl w_.2.2.2.2.2.1,pLs cI w_.2.2.2.2.2.2]),.o (.c (pV (.int .u16 z)))] (.o (.c (pV (.bool true)))):=by
 rcases Bool.eq_false_or_eq_true ((decide (v_.2.1 ≥ (-64:Int)))) with d1 | d1
 ·
  exact zsb v_ w_ z hM hTS _ _ _ _ _ _ _ _ _ ((min (byV ((v_.1:Int).tmod 6) w_).length (byV ((v_.1:Int).tmod 6) v_).length:Nat)) _ ((min (byV ((v_.1:Int).tmod 6) w_).length (byV ((v_.1:Int).tmod 6) v_).length:Nat)) _ _ _ _ _ _ _ _ _ _ _ _ _ (((byV ((v_.1:Int).tmod 6) v_).length - 1 - z.toNat%(byV ((v_.1:Int).tmod 6) v_).length:Nat)) _ _ _ _ _ _ _ _ _ _ _ _ _ _ _ _ _ (((encI v_.2.1).length - 1:Nat)) _ _ _ (((encI v_.2.1).length - 1:Nat)) ((encI v_.2.1).getLast (zgr v_.2.1)) _ _ _ _ _ _ (((encI v_.2.1).length - 1:Nat)) _ _ _ (((encI v_.2.1).length - 1:Nat)) ((encI v_.2.1).getLast (zgr v_.2.1)) _ _ _ _ rfl rfl rfl rfl rfl rfl rfl rfl rfl rfl rfl rfl rfl rfl rfl rfl rfl rfl rfl rfl rfl rfl rfl rfl rfl rfl rfl rfl rfl rfl rfl rfl rfl rfl rfl rfl rfl rfl rfl rfl rfl rfl rfl rfl rfl rfl rfl rfl rfl rfl rfl rfl rfl rfl rfl (zrA v_ w_ z hv hw hz ) (zp6 v_ w_ z hv hw hz ) (zp7 v_ w_ z hv hw hz ) (zp8 v_ w_ z hv hw hz ) (zp9 v_ w_ z hv hw hz ) (zph v_ w_ z hv hw hz ) (zqa v_ w_ z hv hw hz ) (zph v_ w_ z hv hw hz ) (zqb v_ w_ z hv hw hz ) (zqc v_ w_ z hv hw hz ) (zqd v_ w_ z hv hw hz ) (zqe v_ w_ z hv hw hz ) (zpI v_ w_ z hv hw hz ) (zpJ v_ w_ z hv hw hz ) (zpK v_ w_ z hv hw hz ) (zpL v_ w_ z hv hw hz ) (zpM v_ w_ z hv hw hz ) (zpN v_ w_ z hv hw hz ) (zpO v_ w_ z hv hw hz ) d1 (zru v_ w_ z hv hw hz d1) (zpd v_ w_ z hv hw hz ) (zpP v_ w_ z hv hw hz ) (zpd v_ w_ z hv hw hz ) (zpQ v_ w_ z hv hw hz ) (zpR v_ w_ z hv hw hz ) (zrv v_ w_ z hv hw hz ) (zrw v_ w_ z hv hw hz ) (zrx v_ w_ z hv hw hz ) (zpd v_ w_ z hv hw hz ) (zpP v_ w_ z hv hw hz ) (zpd v_ w_ z hv hw hz ) (zpQ v_ w_ z hv hw hz ) (zpR v_ w_ z hv hw hz ) (zry v_ w_ z hv hw hz ) (zrz v_ w_ z hv hw hz )
 ·
  exact zsc v_ w_ z hM hTS _ _ _ _ _ _ _ _ _ ((min (byV ((v_.1:Int).tmod 6) w_).length (byV ((v_.1:Int).tmod 6) v_).length:Nat)) _ ((min (byV ((v_.1:Int).tmod 6) w_).length (byV ((v_.1:Int).tmod 6) v_).length:Nat)) _ _ _ _ _ _ _ _ _ _ _ _ _ (((byV ((v_.1:Int).tmod 6) v_).length - 1 - z.toNat%(byV ((v_.1:Int).tmod 6) v_).length:Nat)) _ _ _ _ _ _ _ _ _ _ _ _ _ _ _ _ (((encI v_.2.1).length - 1:Nat)) _ _ _ (((encI v_.2.1).length - 1:Nat)) ((encI v_.2.1).getLast (zgr v_.2.1)) _ _ _ _ _ _ (((encI v_.2.1).length - 1:Nat)) _ _ _ (((encI v_.2.1).length - 1:Nat)) ((encI v_.2.1).getLast (zgr v_.2.1)) _ _ _ _ rfl rfl rfl rfl rfl rfl rfl rfl rfl rfl rfl rfl rfl rfl rfl rfl rfl rfl rfl rfl rfl rfl rfl rfl rfl rfl rfl rfl rfl rfl rfl rfl rfl rfl rfl rfl rfl rfl rfl rfl rfl rfl rfl rfl rfl rfl rfl rfl rfl rfl rfl rfl rfl rfl (zrA v_ w_ z hv hw hz ) (zp6 v_ w_ z hv hw hz ) (zp7 v_ w_ z hv hw hz ) (zp8 v_ w_ z hv hw hz ) (zp9 v_ w_ z hv hw hz ) (zph v_ w_ z hv hw hz ) (zqa v_ w_ z hv hw hz ) (zph v_ w_ z hv hw hz ) (zqb v_ w_ z hv hw hz ) (zqc v_ w_ z hv hw hz ) (zqd v_ w_ z hv hw hz ) (zqe v_ w_ z hv hw hz ) (zpI v_ w_ z hv hw hz ) (zpJ v_ w_ z hv hw hz ) (zpK v_ w_ z hv hw hz ) (zpL v_ w_ z hv hw hz ) (zpM v_ w_ z hv hw hz ) (zpN v_ w_ z hv hw hz ) (zpO v_ w_ z hv hw hz ) d1 (zrB v_ w_ z hv hw hz d1) (zpd v_ w_ z hv hw hz ) (zpP v_ w_ z hv hw hz ) (zpd v_ w_ z hv hw hz ) (zpQ v_ w_ z hv hw hz ) (zpR v_ w_ z hv hw hz ) (zrv v_ w_ z hv hw hz ) (zrw v_ w_ z hv hw hz ) (zrx v_ w_ z hv hw hz ) (zpd v_ w_ z hv hw hz ) (zpP v_ w_ z hv hw hz ) (zpd v_ w_ z hv hw hz ) (zpQ v_ w_ z hv hw hz ) (zpR v_ w_ z hv hw hz ) (zry v_ w_ z hv hw hz ) (zrz v_ w_ z hv hw hz )
end Go.Proofs.YtjcegdldgjphiaaGreatDoor
namespace Go.Proofs.YtjcegdldgjphiaaGreatDoor
open Go.ChangeShapes Go.WideShapes Go.ChangeAt Go.RowKit Go.Joins Go.Deep
theorem zqR (os:Os) (started:os.Started) (H:Type) (enc:TypeId×Value→H) :
  ReturnsInHanded {} Tryz.checked os 7 .any (fun w args=>(Rows.wireCutSpec.pre enc Tryz.prog Tryz.f7 [] false w args∧laidMetH Tryz.prog laidL w)∧sizedMet enc Tryz.prog Tryz.f7 (OpenSpec.ofChange Rows.wireCutSpec) false w args)
   (Rows.wireCutSpec.post enc Tryz.prog Tryz.f7 false true false false):=by
 refine zhf (C:=Tryz.checked) (X:=fun w _=>laidMetH Tryz.prog laidL w) (fun _ _ _ hh h=>h.of_heap hh) Tryz.own started (by kernel_rfl) Tryz.func7
  (ChangeSpec.witness_shaped (enc:=enc) (C:=Tryz.checked) (os:=os) (X:=fun w _=>laidMetH Tryz.prog laidL w) false (World.doorLaid Tryz.prog 400 os) #[.agg #[.int .u8 0,.int .i64 0,.string ⟨#[]⟩,.slice none 0 0,.int .i64 0,.int .i64 0,.int .i64 0,.slice none 0 0,.slice none 0 0],.agg #[.int .u8 0,.int .i64 0,.string ⟨#[]⟩,.slice none 0 0,.int .i64 0,.int .i64 0,.int .i64 0,.slice none 0 0,.slice none 0 0],.int .u16 0] 8 rfl (World.shaped_of_RefB (by kernel_rfl) (by kernel_rfl)) (by kernel_rfl) (by kernel_rfl) (by kernel_rfl) (zk1 os _)) ?_
 intro W base args ds gs before hval0 hW hL hsh
 have hval:∀(j:Nat) t v,Tryz.f7.params[j]?=some t→args[j]?=some v→Value.okWide Tryz.prog W .any base t v:=hval0
 have hW':=hW
 obtain ⟨p,q,hA0,hV,rfl,hfz,hnd⟩:=hW
 have hA:DataW.TrodAll enc Tryz.prog W 0 (fun _=>true) true Tryz.f7.params.toList args.toList ds p:=hA0
 rw [Tryz.params7] at hA hval
 obtain ⟨v0,v1,v2,d0,d1,d2,p0,p1,p2,rfl,rfl,rfl,h0,h1,h2⟩:=trodAll_three hA
 obtain ⟨cs0,rfl,_⟩:=zpc Tryz.underlying27 (hval 0 27 v0 rfl rfl)
 obtain ⟨x0,a0,s0⟩:=zrj zsO h0
 obtain ⟨cs1,rfl,_⟩:=zpc Tryz.underlying27 (hval 1 27 v1 rfl rfl)
 obtain ⟨x1,a1,s1⟩:=zrj zsO h1
 obtain ⟨x2,rfl,rfl,rfl,w2⟩:=open_int Tryz.underlying41 (hval 2 41 v2 rfl rfl) h2
 have s2:=bounds_u16 w2
 refine (zm8 (args:=#[.agg cs0,.agg cs1,.int .u16 x2]) (zuD (zld hsh) (zlb hL) x0 x1 x2 a0 a1 ⟨s2.1,by omega⟩) ⟨s0,s1,rfl,trivial⟩).mono fun e W' ⟨he,hb⟩=>?_
 subst he
 exact ⟨_,rfl,zgM rfl Tryz.laidOut (by decide +kernel) 4 (by kernel_rfl) Tryz.underlying4 (fun d hd=>by match d,hd with | [_,_,_],_=>rfl) hW' hb⟩
theorem zrP:Rows.WireCutSaid:=
 OpenClaim.holds_of_wide 7 Tryz.f7 rfl rfl rfl rfl rfl rfl rfl ⟨rfl,rfl,rfl,rfl,rfl⟩ rfl rfl rfl rfl rfl (by kernel_rfl) Tryz.func7 (by kernel_rfl)
  (of_decide_eq_true (by kernel_rfl)) (by unfold Func.isWrapper;rw [if_neg (of_decide_eq_false (by kernel_rfl))];exact ⟨rfl,rfl⟩)
  (fun os started H enc _=>zqR os started H enc)
theorem wireCut_card:Rows.WireCutCardSaid:=
 Claim7.holds_tied_plain_at .later [] [.data, .data, .data, .sentinel, .sentinel] true (true, "f6d13d20111d2d1024e69384a6477e3c0998475b261181dffc81234b037bb8e9") true
  zrP (fun _ h=>by cases h) (by kernel_rfl) (fun _ h=>by cases h) wireCut_row_tie rfl ⟨rfl,rfl⟩ (by kernel_rfl) rfl
  (fun f fn hf hfn=>by
   obtain rfl : f = 7 := Option.some.inj ((show Tryz.prog.funcNamed "collet/colletlaw04.WireCut" = some 7 by kernel_rfl).symm.trans hf) |>.symm
   obtain rfl:fn=Tryz.f7:=(Option.some.inj (Tryz.func7.symm.trans hfn)).symm
   exact ⟨by kernel_rfl,fun j t ht=>by
    rw [Tryz.params7] at ht
    have hm:t∈[27,27,41]:=by simpa using Array.mem_of_getElem? ht
    have hall:([27,27,41].all fun u=>!Tryz.prog.wantsStandIn u)=true:=by kernel_rfl
    exact (show Tryz.prog.wantsStandIn t=false by simpa using List.all_eq_true.1 hall t hm)⟩)
  (by kernel_rfl)
end Go.Proofs.YtjcegdldgjphiaaGreatDoor
