/-
  RatioForms is proved: whatever the input, the law returns true and each argument reads as it did, where the listed variables read as listed; and the card, which ties it to the program's text.
-/
import Derived.Test.YtccjiodohphgnaaGreatDoorMgAR
import Derived.Test.YtccjiodohphgnaaGreatDoorMgAV
import Derived.Test.YtccjiodohphgnaaGreatDoorCards
import Derived.Test.YtccjiodohphgnaaGreatDoorTie
import Derived.SevenTiedAt
set_option linter.unusedSimpArgs false
set_option linter.unusedVariables false
set_option maxRecDepth 100000
set_option maxHeartbeats 4000000
namespace Go.Proofs.YtccjiodohphgnaaGreatDoor
open Go.RowKit Go.Shelf
theorem zlu {w0:World} (l:(List Int)) (raw:RR) (f:(Int×Int)) (n:Int) (hM:∀W,Below w0.heap.size w0 W→MaxT W) (hTS:∀W,Below w0.heap.size w0 W→PowT w0.heap.size W∧SynT w0.heap.size W) (v1:Bool) (v2:RR) (v3:RR) (v4:Raw) (v7:RR) (v10:RR) (v13:Int) (v14:Bool) (v15:Int) (v16:Bool) (v17:Int) (v18:Bool) (v19:Int) (v20:Bool) (v21:Bool) (v22:Bool) (v23:Bool) (v25:Int) (v26:Int) (v27:Bool) (v29:Bool) (v31:Bool) (v33:Bool) (v35:Bool) (v37:RR) (v38:Bool) (v39:RR) (v40:Bool) (v41:Bool) (v43:Bool) (v44:Bool) (v46:Int) (v47:Bool) (v48:Int) (v49:Bool) (v50:Int) (v51:Bool) (v52:Int) (v53:Bool) (v54:Bool) (v55:Bool) (v56:Bool) (v58:Int) (v59:Int) (v60:Bool) (v62:Bool) (v64:Bool) (v66:Bool) (v68:Bool) (v70:RR) (v71:Bool) (v72:RR) (v73:Bool) (v74:Bool) (v76:Bool) (v77:Bool) (v79:Int) (v80:Bool) (v81:Int) (v82:Bool) (v83:Int) (v84:Bool) (v85:Int) (v86:Bool) (v87:Bool) (v88:Bool) (v89:Bool) (v91:Int) (v92:Int) (v93:Bool) (v95:Bool) (v97:Bool) (v99:Bool) (v101:Bool) (v103:RR) (v104:Bool) (v105:RR) (v106:Bool) (v107:Bool) (v109:Bool) (v110:Bool) (v112:Int) (v113:Bool) (v114:Int) (v115:Bool) (v116:Int) (v117:Bool) (v118:Int) (v119:Bool) (v120:Bool) (v121:Bool) (v122:Bool) (v124:Int) (v125:Int) (v126:Bool) (v128:Bool) (v130:Bool) (v132:Bool) (v134:Bool) (v136:RR) (v137:Bool) (v138:RR) (v139:Bool) (v140:Bool) (v142:Bool) (v143:Bool) (v145:Int) (v146:Bool) (v147:Int) (v148:Bool) (v149:Int) (v150:Bool) (v151:Int) (v152:Bool) (v153:Bool) (v154:Bool) (v155:Bool) (v157:Int) (v158:Int) (v159:Bool) (v161:Bool) (v163:Bool) (v165:Bool) (v167:Bool) (v169:RR) (v170:Bool) (v171:RR) (v172:Bool) (v173:Bool) (v175:Bool) (v176:Bool) (v178:Int) (v179:Int) (v180:RR) (v183:RR) (v186:Bool) (v187:Bool) (v189:RR) (v192:RR) (v195:Bool) (v196:Bool) (v198:RR) (v201:RR) (v204:Bool) (v205:Bool) (v207:RR) (v210:RR) (v213:Bool) (v214:Bool) (v217:RR) (v220:RR) (v223:Bool) (e1:(true)=v1) (e2:(zJ raw)=v2) (e3:(rq (madeR l))=v3) (e4:(nz n)=v4) (e7:(rq (fracR f.1 f.2))=v7) (e10:((nz n,nz 1))=v10) (e13:(vO (flX v3.1 v3.2))=v13) (e14:(okO (flX v3.1 v3.2))=v14) (e15:(vO (flX v3.1 v3.2))=v15) (e16:(okO (flX v3.1 v3.2))=v16) (e17:(vO (ceX v3.1 v3.2))=v17) (e18:(okO (ceX v3.1 v3.2))=v18) (e19:(vO (ceX v3.1 v3.2))=v19) (e20:(okO (ceX v3.1 v3.2))=v20) (e21:(rrX v3.1 v3.2)=v21) (e22:(rrX v3.1 v3.2)=v22) (e23:(!(v21 == v22))=v23) (e25:(sgX v3.1 v3.2)=v25) (e26:(sgX v3.1 v3.2)=v26) (e27:((v25 != v26))=v27) (e29:((v13 != v15))=v29) (e31:(!(v14 == v16))=v31) (e33:((v17 != v19))=v33) (e35:(!(v18 == v20))=v35) (e37:(rq (ofX v3.1 v3.2))=v37) (e38:((ofX v3.1 v3.2).isSome)=v38) (e39:(rq (ofX v3.1 v3.2))=v39) (e40:((ofX v3.1 v3.2).isSome)=v40) (e41:(!(v38 == v40))=v41) (e43:(decide (v37=v39))=v43) (e44:(!v43)=v44) (e46:(vO (flX v2.1 v2.2))=v46) (e47:(okO (flX v2.1 v2.2))=v47) (e48:(vO (flX v2.1 v2.2))=v48) (e49:(okO (flX v2.1 v2.2))=v49) (e50:(vO (ceX v2.1 v2.2))=v50) (e51:(okO (ceX v2.1 v2.2))=v51) (e52:(vO (ceX v2.1 v2.2))=v52) (e53:(okO (ceX v2.1 v2.2))=v53) (e54:(rrX v2.1 v2.2)=v54) (e55:(rrX v2.1 v2.2)=v55) (e56:(!(v54 == v55))=v56) (e58:(sgX v2.1 v2.2)=v58) (e59:(sgX v2.1 v2.2)=v59) (e60:((v58 != v59))=v60) (e62:((v46 != v48))=v62) (e64:(!(v47 == v49))=v64) (e66:((v50 != v52))=v66) (e68:(!(v51 == v53))=v68) (e70:(rq (ofX v2.1 v2.2))=v70) (e71:((ofX v2.1 v2.2).isSome)=v71) (e72:(rq (ofX v2.1 v2.2))=v72) (e73:((ofX v2.1 v2.2).isSome)=v73) (e74:(!(v71 == v73))=v74) (e76:(decide (v70=v72))=v76) (e77:(!v76)=v77) (e79:(vO (flX (v2.1,v4).1 (v2.1,v4).2))=v79) (e80:(okO (flX (v2.1,v4).1 (v2.1,v4).2))=v80) (e81:(vO (flX (v2.1,v4).1 (v2.1,v4).2))=v81) (e82:(okO (flX (v2.1,v4).1 (v2.1,v4).2))=v82) (e83:(vO (ceX (v2.1,v4).1 (v2.1,v4).2))=v83) (e84:(okO (ceX (v2.1,v4).1 (v2.1,v4).2))=v84) (e85:(vO (ceX (v2.1,v4).1 (v2.1,v4).2))=v85) (e86:(okO (ceX (v2.1,v4).1 (v2.1,v4).2))=v86) (e87:(rrX (v2.1,v4).1 (v2.1,v4).2)=v87) (e88:(rrX (v2.1,v4).1 (v2.1,v4).2)=v88) (e89:(!(v87 == v88))=v89) (e91:(sgX (v2.1,v4).1 (v2.1,v4).2)=v91) (e92:(sgX (v2.1,v4).1 (v2.1,v4).2)=v92) (e93:((v91 != v92))=v93) (e95:((v79 != v81))=v95) (e97:(!(v80 == v82))=v97) (e99:((v83 != v85))=v99) (e101:(!(v84 == v86))=v101) (e103:(rq (ofX v2.1 v4))=v103) (e104:((ofX v2.1 v4).isSome)=v104) (e105:(rq (ofX v2.1 v4))=v105) (e106:((ofX v2.1 v4).isSome)=v106) (e107:(!(v104 == v106))=v107) (e109:(decide (v103=v105))=v109) (e110:(!v109)=v110) (e112:(vO (flX v7.1 v7.2))=v112) (e113:(okO (flX v7.1 v7.2))=v113) (e114:(vO (flX v7.1 v7.2))=v114) (e115:(okO (flX v7.1 v7.2))=v115) (e116:(vO (ceX v7.1 v7.2))=v116) (e117:(okO (ceX v7.1 v7.2))=v117) (e118:(vO (ceX v7.1 v7.2))=v118) (e119:(okO (ceX v7.1 v7.2))=v119) (e120:(rrX v7.1 v7.2)=v120) (e121:(rrX v7.1 v7.2)=v121) (e122:(!(v120 == v121))=v122) (e124:(sgX v7.1 v7.2)=v124) (e125:(sgX v7.1 v7.2)=v125) (e126:((v124 != v125))=v126) (e128:((v112 != v114))=v128) (e130:(!(v113 == v115))=v130) (e132:((v116 != v118))=v132) (e134:(!(v117 == v119))=v134) (e136:(rq (ofX v7.1 v7.2))=v136) (e137:((ofX v7.1 v7.2).isSome)=v137) (e138:(rq (ofX v7.1 v7.2))=v138) (e139:((ofX v7.1 v7.2).isSome)=v139) (e140:(!(v137 == v139))=v140) (e142:(decide (v136=v138))=v142) (e143:(!v142)=v143) (e145:(vO (flX v10.1 v10.2))=v145) (e146:(okO (flX v10.1 v10.2))=v146) (e147:(vO (flX v10.1 v10.2))=v147) (e148:(okO (flX v10.1 v10.2))=v148) (e149:(vO (ceX v10.1 v10.2))=v149) (e150:(okO (ceX v10.1 v10.2))=v150) (e151:(vO (ceX v10.1 v10.2))=v151) (e152:(okO (ceX v10.1 v10.2))=v152) (e153:(rrX v10.1 v10.2)=v153) (e154:(rrX v10.1 v10.2)=v154) (e155:(!(v153 == v154))=v155) (e157:(sgX v10.1 v10.2)=v157) (e158:(sgX v10.1 v10.2)=v158) (e159:((v157 != v158))=v159) (e161:((v145 != v147))=v161) (e163:(!(v146 == v148))=v163) (e165:((v149 != v151))=v165) (e167:(!(v150 == v152))=v167) (e169:(rq (ofX v10.1 v10.2))=v169) (e170:((ofX v10.1 v10.2).isSome)=v170) (e171:(rq (ofX v10.1 v10.2))=v171) (e172:((ofX v10.1 v10.2).isSome)=v172) (e173:(!(v170 == v172))=v173) (e175:(decide (v169=v171))=v175) (e176:(!v175)=v176) (e178:((f.1:Int).tmod (100:Int))=v178) (e179:((f.2:Int).tmod (100:Int))=v179) (e180:(rq (fracR f.1 f.2))=v180) (e183:(rq (fracR f.1 f.2))=v183) (e186:(decide (v180=v183))=v186) (e187:(!v186)=v187) (e189:(rq (fracR (v178,v179).1 (v178,v179).2))=v189) (e192:(rq (fracR (v178,v179).1 (v178,v179).2))=v192) (e195:(decide (v189=v192))=v195) (e196:(!v195)=v196) (e198:(rq (fracR (n,(1:Int)).1 (n,(1:Int)).2))=v198) (e201:(rq (fracR (n,(1:Int)).1 (n,(1:Int)).2))=v201) (e204:(decide (v198=v201))=v204) (e205:(!v204)=v205) (e207:(rq (fracR ((1:Int),n).1 ((1:Int),n).2))=v207) (e210:(rq (fracR ((1:Int),n).1 ((1:Int),n).2))=v210) (e213:(decide (v207=v210))=v213) (e214:(!v213)=v214) (e217:((nz n,nz 1))=v217) (e220:((nz n,nz 1))=v220) (e223:(decide (v217=v220))=v223) (s5:-9223372036854775808≤n) (s6:n<9223372036854775808) (s8:InR f.1) (s9:InR f.2) (s11:-9223372036854775808≤n) (s12:n<9223372036854775808) (h24:v23=false) (h28:v27=false) (h30:v29=false) (h32:v31=false) (h34:v33=false) (h36:v35=false) (h42:v41=false) (h45:v44=false) (h57:v56=false) (h61:v60=false) (h63:v62=false) (h65:v64=false) (h67:v66=false) (h69:v68=false) (h75:v74=false) (h78:v77=false) (h90:v89=false) (h94:v93=false) (h96:v95=false) (h98:v97=false) (h100:v99=false) (h102:v101=false) (h108:v107=false) (h111:v110=false) (h123:v122=false) (h127:v126=false) (h129:v128=false) (h131:v130=false) (h133:v132=false) (h135:v134=false) (h141:v140=false) (h144:v143=false) (h156:v155=false) (h160:v159=false) (h162:v161=false) (h164:v163=false) (h166:v165=false) (h168:v167=false) (h174:v173=false) (h177:v176=false) (s181:InR f.1) (s182:InR f.2) (s184:InR f.1) (s185:InR f.2) (h188:v187=false) (s190:InR (v178,v179).1) (s191:InR (v178,v179).2) (s193:InR (v178,v179).1) (s194:InR (v178,v179).2) (h197:v196=false) (s199:InR (n,(1:Int)).1) (s200:InR (n,(1:Int)).2) (s202:InR (n,(1:Int)).1) (s203:InR (n,(1:Int)).2) (h206:v205=false) (s208:InR ((1:Int),n).1) (s209:InR ((1:Int),n).2) (s211:InR ((1:Int),n).1) (s212:InR ((1:Int),n).2) (h215:v214=false) (h216:v1=true) (s218:-9223372036854775808≤n) (s219:n<9223372036854775808) (s221:-9223372036854775808≤n) (s222:n<9223372036854775808):Fun (KN w0) Tryz.prog 8 [.o (.c (pLs cI l)),.o (.g [pB raw.1.1,pD raw.1.2,pB raw.2.1,pD raw.2.2]),.o (.g [pI f.1,pI f.2]),.o (.c (pI n))] (.o (.c (pB v223))):=
 zi (zac (F:=FL (pLs cI l::pB raw.1.1::pD raw.1.2::pB raw.2.1::pD raw.2.2::pI f.1::pI f.2::pI n::pB v1::pB v2.1.1::pD v2.1.2::pB v2.2.1::pD v2.2.2::pB v3.1.1::pD v3.1.2::pB v3.2.1::pD v3.2.2::pB v4.1::pD v4.2::pB v7.1.1::pD v7.1.2::pB v7.2.1::pD v7.2.2::pB v10.1.1::pD v10.1.2::pB v10.2.1::pD v10.2.2::pI v13::pB v14::pI v15::pB v16::pI v17::pB v18::pI v19::pB v20::pB v21::pB v22::pB v23::pI v25::pI v26::pB v27::pB v29::pB v31::pB v33::pB v35::pB v37.1.1::pD v37.1.2::pB v37.2.1::pD v37.2.2::pB v38::pB v39.1.1::pD v39.1.2::pB v39.2.1::pD v39.2.2::pB v40::pB v41::pB v43::pB v44::pI v46::pB v47::pI v48::pB v49::pI v50::pB v51::pI v52::pB v53::pB v54::pB v55::pB v56::pI v58::pI v59::pB v60::pB v62::pB v64::pB v66::pB v68::pB v70.1.1::pD v70.1.2::pB v70.2.1::pD v70.2.2::pB v71::pB v72.1.1::pD v72.1.2::pB v72.2.1::pD v72.2.2::pB v73::pB v74::pB v76::pB v77::pI v79::pB v80::pI v81::pB v82::pI v83::pB v84::pI v85::pB v86::pB v87::pB v88::pB v89::pI v91::pI v92::pB v93::pB v95::pB v97::pB v99::pB v101::pB v103.1.1::pD v103.1.2::pB v103.2.1::pD v103.2.2::pB v104::pB v105.1.1::pD v105.1.2::pB v105.2.1::pD v105.2.2::pB v106::pB v107::pB v109::pB v110::pI v112::pB v113::pI v114::pB v115::pI v116::pB v117::pI v118::pB v119::pB v120::pB v121::pB v122::pI v124::pI v125::pB v126::pB v128::pB v130::pB v132::pB v134::pB v136.1.1::pD v136.1.2::pB v136.2.1::pD v136.2.2::pB v137::pB v138.1.1::pD v138.1.2::pB v138.2.1::pD v138.2.2::pB v139::pB v140::pB v142::pB v143::pI v145::pB v146::pI v147::pB v148::pI v149::pB v150::pI v151::pB v152::pB v153::pB v154::pB v155::pI v157::pI v158::pB v159::pB v161::pB v163::pB v165::pB v167::pB v169.1.1::pD v169.1.2::pB v169.2.1::pD v169.2.2::pB v170::pB v171.1.1::pD v171.1.2::pB v171.2.1::pD v171.2.2::pB v172::pB v173::pB v175::pB v176::pI v178::pI v179::pB v180.1.1::pD v180.1.2::pB v180.2.1::pD v180.2.2::pB v183.1.1::pD v183.1.2::pB v183.2.1::pD v183.2.2::pB v186::pB v187::pB v189.1.1::pD v189.1.2::pB v189.2.1::pD v189.2.2::pB v192.1.1::pD v192.1.2::pB v192.2.1::pD v192.2.2::pB v195::pB v196::pB v198.1.1::pD v198.1.2::pB v198.2.1::pD v198.2.2::pB v201.1.1::pD v201.1.2::pB v201.2.1::pD v201.2.2::pB v204::pB v205::pB v207.1.1::pD v207.1.2::pB v207.2.1::pD v207.2.2::pB v210.1.1::pD v210.1.2::pB v210.2.1::pD v210.2.2::pB v213::pB v214::pB v217.1.1::pD v217.1.2::pB v217.2.1::pD v217.2.2::pB v220.1.1::pD v220.1.2::pB v220.2.1::pD v220.2.2::pB v223::[]) []) (C:=((1000003,.call ⟨10,[],[],.o (.c (.h 8)),[]⟩) ::
  (1000006,.call ⟨11,[.o (.g [.h 1,.h 2,.h 3,.h 4])],[],.o (.g [.h 9,.h 10,.h 11,.h 12]),[]⟩) ::
  (1000009,.call ⟨12,[.o (.c (.h 0))],[],.o (.g [.h 13,.h 14,.h 15,.h 16]),[]⟩) ::
  (1000014,.call ⟨36,[.o (.c (.h 7))],[],.o (.g [.h 17,.h 18]),[]⟩) ::
  (1000017,.call ⟨37,[.o (.g [.h 5,.h 6])],[],.o (.g [.h 19,.h 20,.h 21,.h 22]),[]⟩) ::
  (1000019,.call ⟨38,[.o (.c (.h 7))],[],.o (.g [.h 23,.h 24,.h 25,.h 26]),[]⟩) ::
  (1000021,.op (.len [57] 3) [LF (.s 20 0 5 5)] [] (LF (.k (.int .i64 5)))) ::
  (1000029,.call ⟨39,[.o (.g [.h 13,.h 14,.h 15,.h 16])],[],.t [.c (.h 27),.c (.h 28)],[]⟩) ::
  (1000036,.call ⟨40,[.o (.g [.h 13,.h 14,.h 15,.h 16])],[],.t [.c (.h 29),.c (.h 30)],[]⟩) ::
  (1000043,.call ⟨41,[.o (.g [.h 13,.h 14,.h 15,.h 16])],[],.t [.c (.h 31),.c (.h 32)],[]⟩) ::
  (1000050,.call ⟨42,[.o (.g [.h 13,.h 14,.h 15,.h 16])],[],.t [.c (.h 33),.c (.h 34)],[]⟩) ::
  (1000057,.call ⟨43,[.o (.g [.h 13,.h 14,.h 15,.h 16])],[],.o (.c (.h 35)),[]⟩) ::
  (1000059,.call ⟨44,[.o (.g [.h 13,.h 14,.h 15,.h 16])],[],.o (.c (.h 36)),[]⟩) ::
  (1000060,.bin .neq 4 (LF (.h 35)) (LF (.h 36)) (LF (.h 37))) ::
  (10037,.fb 37 false) ::
  (1000063,.call ⟨26,[.o (.g [.h 13,.h 14,.h 15,.h 16])],[],.o (.c (.h 38)),[]⟩) ::
  (1000065,.call ⟨45,[.o (.g [.h 13,.h 14,.h 15,.h 16])],[],.o (.c (.h 39)),[]⟩) ::
  (1000066,.bin .neq 3 (LF (.h 38)) (LF (.h 39)) (LF (.h 40))) ::
  (10040,.fb 40 false) ::
  (1000071,.bin .neq 3 (LF (.h 27)) (LF (.h 29)) (LF (.h 41))) ::
  (10041,.fb 41 false) ::
  (1000076,.bin .neq 4 (LF (.h 28)) (LF (.h 30)) (LF (.h 42))) ::
  (10042,.fb 42 false) ::
  (1000081,.bin .neq 3 (LF (.h 31)) (LF (.h 33)) (LF (.h 43))) ::
  (10043,.fb 43 false) ::
  (1000086,.bin .neq 4 (LF (.h 32)) (LF (.h 34)) (LF (.h 44))) ::
  (10044,.fb 44 false) ::
  (1000092,.call ⟨46,[.o (.g [.h 13,.h 14]),.o (.g [.h 15,.h 16])],[],.t [.g [.h 45,.h 46,.h 47,.h 48],.c (.h 49)],[]⟩) ::
  (1000103,.call ⟨47,[.o (.g [.h 13,.h 14]),.o (.g [.h 15,.h 16])],[],.t [.g [.h 50,.h 51,.h 52,.h 53],.c (.h 54)],[]⟩) ::
  (1000112,.bin .neq 4 (LF (.h 49)) (LF (.h 54)) (LF (.h 55))) ::
  (10055,.fb 55 false) ::
  (1000116,.call ⟨17,[.o (.g [.h 45,.h 46,.h 47,.h 48]),.o (.g [.h 50,.h 51,.h 52,.h 53])],[],.o (.c (.h 56)),[]⟩) ::
  (1000117,.un .not (LF (.h 56)) (LF (.h 57))) ::
  (10057,.fb 57 false) ::
  (1000119,.bin .add 3 (LF (.k (.int .i64 0))) (LF (.k (.int .i64 1))) (LF (.k (.int .i64 1)))) ::
  (1000127,.call ⟨39,[.o (.g [.h 9,.h 10,.h 11,.h 12])],[],.t [.c (.h 58),.c (.h 59)],[]⟩) ::
  (1000134,.call ⟨40,[.o (.g [.h 9,.h 10,.h 11,.h 12])],[],.t [.c (.h 60),.c (.h 61)],[]⟩) ::
  (1000141,.call ⟨41,[.o (.g [.h 9,.h 10,.h 11,.h 12])],[],.t [.c (.h 62),.c (.h 63)],[]⟩) ::
  (1000148,.call ⟨42,[.o (.g [.h 9,.h 10,.h 11,.h 12])],[],.t [.c (.h 64),.c (.h 65)],[]⟩) ::
  (1000155,.call ⟨43,[.o (.g [.h 9,.h 10,.h 11,.h 12])],[],.o (.c (.h 66)),[]⟩) ::
  (1000157,.call ⟨44,[.o (.g [.h 9,.h 10,.h 11,.h 12])],[],.o (.c (.h 67)),[]⟩) ::
  (1000158,.bin .neq 4 (LF (.h 66)) (LF (.h 67)) (LF (.h 68))) ::
  (10068,.fb 68 false) ::
  (1000161,.call ⟨26,[.o (.g [.h 9,.h 10,.h 11,.h 12])],[],.o (.c (.h 69)),[]⟩) ::
  (1000163,.call ⟨45,[.o (.g [.h 9,.h 10,.h 11,.h 12])],[],.o (.c (.h 70)),[]⟩) ::
  (1000164,.bin .neq 3 (LF (.h 69)) (LF (.h 70)) (LF (.h 71))) ::
  (10071,.fb 71 false) ::
  (1000169,.bin .neq 3 (LF (.h 58)) (LF (.h 60)) (LF (.h 72))) ::
  (10072,.fb 72 false) ::
  (1000174,.bin .neq 4 (LF (.h 59)) (LF (.h 61)) (LF (.h 73))) ::
  (10073,.fb 73 false) ::
  (1000179,.bin .neq 3 (LF (.h 62)) (LF (.h 64)) (LF (.h 74))) ::
  (10074,.fb 74 false) ::
  (1000184,.bin .neq 4 (LF (.h 63)) (LF (.h 65)) (LF (.h 75))) ::
  (10075,.fb 75 false) ::
  (1000190,.call ⟨46,[.o (.g [.h 9,.h 10]),.o (.g [.h 11,.h 12])],[],.t [.g [.h 76,.h 77,.h 78,.h 79],.c (.h 80)],[]⟩) ::
  (1000201,.call ⟨47,[.o (.g [.h 9,.h 10]),.o (.g [.h 11,.h 12])],[],.t [.g [.h 81,.h 82,.h 83,.h 84],.c (.h 85)],[]⟩) ::
  (1000210,.bin .neq 4 (LF (.h 80)) (LF (.h 85)) (LF (.h 86))) ::
  (10086,.fb 86 false) ::
  (1000214,.call ⟨17,[.o (.g [.h 76,.h 77,.h 78,.h 79]),.o (.g [.h 81,.h 82,.h 83,.h 84])],[],.o (.c (.h 87)),[]⟩) ::
  (1000215,.un .not (LF (.h 87)) (LF (.h 88))) ::
  (10088,.fb 88 false) ::
  (1000217,.bin .add 3 (LF (.k (.int .i64 1))) (LF (.k (.int .i64 1))) (LF (.k (.int .i64 2)))) ::
  (1000225,.call ⟨39,[.o (.g [.h 9,.h 10,.h 17,.h 18])],[],.t [.c (.h 89),.c (.h 90)],[]⟩) ::
  (1000232,.call ⟨40,[.o (.g [.h 9,.h 10,.h 17,.h 18])],[],.t [.c (.h 91),.c (.h 92)],[]⟩) ::
  (1000239,.call ⟨41,[.o (.g [.h 9,.h 10,.h 17,.h 18])],[],.t [.c (.h 93),.c (.h 94)],[]⟩) ::
  (1000246,.call ⟨42,[.o (.g [.h 9,.h 10,.h 17,.h 18])],[],.t [.c (.h 95),.c (.h 96)],[]⟩) ::
  (1000253,.call ⟨43,[.o (.g [.h 9,.h 10,.h 17,.h 18])],[],.o (.c (.h 97)),[]⟩) ::
  (1000255,.call ⟨44,[.o (.g [.h 9,.h 10,.h 17,.h 18])],[],.o (.c (.h 98)),[]⟩) ::
  (1000256,.bin .neq 4 (LF (.h 97)) (LF (.h 98)) (LF (.h 99))) ::
  (10099,.fb 99 false) ::
  (1000259,.call ⟨26,[.o (.g [.h 9,.h 10,.h 17,.h 18])],[],.o (.c (.h 100)),[]⟩) ::
  (1000261,.call ⟨45,[.o (.g [.h 9,.h 10,.h 17,.h 18])],[],.o (.c (.h 101)),[]⟩) ::
  (1000262,.bin .neq 3 (LF (.h 100)) (LF (.h 101)) (LF (.h 102))) ::
  (10102,.fb 102 false) ::
  (1000267,.bin .neq 3 (LF (.h 89)) (LF (.h 91)) (LF (.h 103))) ::
  (10103,.fb 103 false) ::
  (1000272,.bin .neq 4 (LF (.h 90)) (LF (.h 92)) (LF (.h 104))) ::
  (10104,.fb 104 false) ::
  (1000277,.bin .neq 3 (LF (.h 93)) (LF (.h 95)) (LF (.h 105))) ::
  (10105,.fb 105 false) ::
  (1000282,.bin .neq 4 (LF (.h 94)) (LF (.h 96)) (LF (.h 106))) ::
  (10106,.fb 106 false) ::
  (1000288,.call ⟨46,[.o (.g [.h 9,.h 10]),.o (.g [.h 17,.h 18])],[],.t [.g [.h 107,.h 108,.h 109,.h 110],.c (.h 111)],[]⟩) ::
  (1000299,.call ⟨47,[.o (.g [.h 9,.h 10]),.o (.g [.h 17,.h 18])],[],.t [.g [.h 112,.h 113,.h 114,.h 115],.c (.h 116)],[]⟩) ::
  (1000308,.bin .neq 4 (LF (.h 111)) (LF (.h 116)) (LF (.h 117))) ::
  (10117,.fb 117 false) ::
  (1000312,.call ⟨17,[.o (.g [.h 107,.h 108,.h 109,.h 110]),.o (.g [.h 112,.h 113,.h 114,.h 115])],[],.o (.c (.h 118)),[]⟩) ::
  (1000313,.un .not (LF (.h 118)) (LF (.h 119))) ::
  (10119,.fb 119 false) ::
  (1000315,.bin .add 3 (LF (.k (.int .i64 2))) (LF (.k (.int .i64 1))) (LF (.k (.int .i64 3)))) ::
  (1000323,.call ⟨39,[.o (.g [.h 19,.h 20,.h 21,.h 22])],[],.t [.c (.h 120),.c (.h 121)],[]⟩) ::
  (1000330,.call ⟨40,[.o (.g [.h 19,.h 20,.h 21,.h 22])],[],.t [.c (.h 122),.c (.h 123)],[]⟩) ::
  (1000337,.call ⟨41,[.o (.g [.h 19,.h 20,.h 21,.h 22])],[],.t [.c (.h 124),.c (.h 125)],[]⟩) ::
  (1000344,.call ⟨42,[.o (.g [.h 19,.h 20,.h 21,.h 22])],[],.t [.c (.h 126),.c (.h 127)],[]⟩) ::
  (1000351,.call ⟨43,[.o (.g [.h 19,.h 20,.h 21,.h 22])],[],.o (.c (.h 128)),[]⟩) ::
  (1000353,.call ⟨44,[.o (.g [.h 19,.h 20,.h 21,.h 22])],[],.o (.c (.h 129)),[]⟩) ::
  (1000354,.bin .neq 4 (LF (.h 128)) (LF (.h 129)) (LF (.h 130))) ::
  (10130,.fb 130 false) ::
  (1000357,.call ⟨26,[.o (.g [.h 19,.h 20,.h 21,.h 22])],[],.o (.c (.h 131)),[]⟩) ::
  (1000359,.call ⟨45,[.o (.g [.h 19,.h 20,.h 21,.h 22])],[],.o (.c (.h 132)),[]⟩) ::
  (1000360,.bin .neq 3 (LF (.h 131)) (LF (.h 132)) (LF (.h 133))) ::
  (10133,.fb 133 false) ::
  (1000365,.bin .neq 3 (LF (.h 120)) (LF (.h 122)) (LF (.h 134))) ::
  (10134,.fb 134 false) ::
  (1000370,.bin .neq 4 (LF (.h 121)) (LF (.h 123)) (LF (.h 135))) ::
  (10135,.fb 135 false) ::
  (1000375,.bin .neq 3 (LF (.h 124)) (LF (.h 126)) (LF (.h 136))) ::
  (10136,.fb 136 false) ::
  (1000380,.bin .neq 4 (LF (.h 125)) (LF (.h 127)) (LF (.h 137))) ::
  (10137,.fb 137 false) ::
  (1000386,.call ⟨46,[.o (.g [.h 19,.h 20]),.o (.g [.h 21,.h 22])],[],.t [.g [.h 138,.h 139,.h 140,.h 141],.c (.h 142)],[]⟩) ::
  (1000397,.call ⟨47,[.o (.g [.h 19,.h 20]),.o (.g [.h 21,.h 22])],[],.t [.g [.h 143,.h 144,.h 145,.h 146],.c (.h 147)],[]⟩) ::
  (1000406,.bin .neq 4 (LF (.h 142)) (LF (.h 147)) (LF (.h 148))) ::
  (10148,.fb 148 false) ::
  (1000410,.call ⟨17,[.o (.g [.h 138,.h 139,.h 140,.h 141]),.o (.g [.h 143,.h 144,.h 145,.h 146])],[],.o (.c (.h 149)),[]⟩) ::
  (1000411,.un .not (LF (.h 149)) (LF (.h 150))) ::
  (10150,.fb 150 false) ::
  (1000413,.bin .add 3 (LF (.k (.int .i64 3))) (LF (.k (.int .i64 1))) (LF (.k (.int .i64 4)))) ::
  (1000421,.call ⟨39,[.o (.g [.h 23,.h 24,.h 25,.h 26])],[],.t [.c (.h 151),.c (.h 152)],[]⟩) ::
  (1000428,.call ⟨40,[.o (.g [.h 23,.h 24,.h 25,.h 26])],[],.t [.c (.h 153),.c (.h 154)],[]⟩) ::
  (1000435,.call ⟨41,[.o (.g [.h 23,.h 24,.h 25,.h 26])],[],.t [.c (.h 155),.c (.h 156)],[]⟩) ::
  (1000442,.call ⟨42,[.o (.g [.h 23,.h 24,.h 25,.h 26])],[],.t [.c (.h 157),.c (.h 158)],[]⟩) ::
  (1000449,.call ⟨43,[.o (.g [.h 23,.h 24,.h 25,.h 26])],[],.o (.c (.h 159)),[]⟩) ::
  (1000451,.call ⟨44,[.o (.g [.h 23,.h 24,.h 25,.h 26])],[],.o (.c (.h 160)),[]⟩) ::
  (1000452,.bin .neq 4 (LF (.h 159)) (LF (.h 160)) (LF (.h 161))) ::
  (10161,.fb 161 false) ::
  (1000455,.call ⟨26,[.o (.g [.h 23,.h 24,.h 25,.h 26])],[],.o (.c (.h 162)),[]⟩) ::
  (1000457,.call ⟨45,[.o (.g [.h 23,.h 24,.h 25,.h 26])],[],.o (.c (.h 163)),[]⟩) ::
  (1000458,.bin .neq 3 (LF (.h 162)) (LF (.h 163)) (LF (.h 164))) ::
  (10164,.fb 164 false) ::
  (1000463,.bin .neq 3 (LF (.h 151)) (LF (.h 153)) (LF (.h 165))) ::
  (10165,.fb 165 false) ::
  (1000468,.bin .neq 4 (LF (.h 152)) (LF (.h 154)) (LF (.h 166))) ::
  (10166,.fb 166 false) ::
  (1000473,.bin .neq 3 (LF (.h 155)) (LF (.h 157)) (LF (.h 167))) ::
  (10167,.fb 167 false) ::
  (1000478,.bin .neq 4 (LF (.h 156)) (LF (.h 158)) (LF (.h 168))) ::
  (10168,.fb 168 false) ::
  (1000484,.call ⟨46,[.o (.g [.h 23,.h 24]),.o (.g [.h 25,.h 26])],[],.t [.g [.h 169,.h 170,.h 171,.h 172],.c (.h 173)],[]⟩) ::
  (1000495,.call ⟨47,[.o (.g [.h 23,.h 24]),.o (.g [.h 25,.h 26])],[],.t [.g [.h 174,.h 175,.h 176,.h 177],.c (.h 178)],[]⟩) ::
  (1000504,.bin .neq 4 (LF (.h 173)) (LF (.h 178)) (LF (.h 179))) ::
  (10179,.fb 179 false) ::
  (1000508,.call ⟨17,[.o (.g [.h 169,.h 170,.h 171,.h 172]),.o (.g [.h 174,.h 175,.h 176,.h 177])],[],.o (.c (.h 180)),[]⟩) ::
  (1000509,.un .not (LF (.h 180)) (LF (.h 181))) ::
  (10181,.fb 181 false) ::
  (1000511,.bin .add 3 (LF (.k (.int .i64 4))) (LF (.k (.int .i64 1))) (LF (.k (.int .i64 5)))) ::
  (1000517,.bin .rem 3 (LF (.h 5)) (LF (.k (.int .i64 100))) (LF (.h 182))) ::
  (1000520,.bin .rem 3 (LF (.h 6)) (LF (.k (.int .i64 100))) (LF (.h 183))) ::
  (1000527,.op (.len [62] 3) [LF (.s 526 0 4 4)] [] (LF (.k (.int .i64 4)))) ::
  (1000535,.call ⟨48,[.o (.g [.h 5,.h 6])],[],.o (.g [.h 184,.h 185,.h 186,.h 187]),[]⟩) ::
  (1000537,.call ⟨37,[.o (.g [.h 5,.h 6])],[],.o (.g [.h 188,.h 189,.h 190,.h 191]),[]⟩) ::
  (1000538,.call ⟨17,[.o (.g [.h 184,.h 185,.h 186,.h 187]),.o (.g [.h 188,.h 189,.h 190,.h 191])],[],.o (.c (.h 192)),[]⟩) ::
  (1000539,.un .not (LF (.h 192)) (LF (.h 193))) ::
  (10193,.fb 193 false) ::
  (1000540,.bin .add 3 (LF (.k (.int .i64 0))) (LF (.k (.int .i64 1))) (LF (.k (.int .i64 1)))) ::
  (1000548,.call ⟨48,[.o (.g [.h 182,.h 183])],[],.o (.g [.h 194,.h 195,.h 196,.h 197]),[]⟩) ::
  (1000550,.call ⟨37,[.o (.g [.h 182,.h 183])],[],.o (.g [.h 198,.h 199,.h 200,.h 201]),[]⟩) ::
  (1000551,.call ⟨17,[.o (.g [.h 194,.h 195,.h 196,.h 197]),.o (.g [.h 198,.h 199,.h 200,.h 201])],[],.o (.c (.h 202)),[]⟩) ::
  (1000552,.un .not (LF (.h 202)) (LF (.h 203))) ::
  (10203,.fb 203 false) ::
  (1000553,.bin .add 3 (LF (.k (.int .i64 1))) (LF (.k (.int .i64 1))) (LF (.k (.int .i64 2)))) ::
  (1000561,.call ⟨48,[.o (.g [.h 7,.k (.int .i64 1)])],[],.o (.g [.h 204,.h 205,.h 206,.h 207]),[]⟩) ::
  (1000563,.call ⟨37,[.o (.g [.h 7,.k (.int .i64 1)])],[],.o (.g [.h 208,.h 209,.h 210,.h 211]),[]⟩) ::
  (1000564,.call ⟨17,[.o (.g [.h 204,.h 205,.h 206,.h 207]),.o (.g [.h 208,.h 209,.h 210,.h 211])],[],.o (.c (.h 212)),[]⟩) ::
  (1000565,.un .not (LF (.h 212)) (LF (.h 213))) ::
  (10213,.fb 213 false) ::
  (1000566,.bin .add 3 (LF (.k (.int .i64 2))) (LF (.k (.int .i64 1))) (LF (.k (.int .i64 3)))) ::
  (1000574,.call ⟨48,[.o (.g [.k (.int .i64 1),.h 7])],[],.o (.g [.h 214,.h 215,.h 216,.h 217]),[]⟩) ::
  (1000576,.call ⟨37,[.o (.g [.k (.int .i64 1),.h 7])],[],.o (.g [.h 218,.h 219,.h 220,.h 221]),[]⟩) ::
  (1000577,.call ⟨17,[.o (.g [.h 214,.h 215,.h 216,.h 217]),.o (.g [.h 218,.h 219,.h 220,.h 221])],[],.o (.c (.h 222)),[]⟩) ::
  (1000578,.un .not (LF (.h 222)) (LF (.h 223))) ::
  (10223,.fb 223 false) ::
  (1000579,.bin .add 3 (LF (.k (.int .i64 3))) (LF (.k (.int .i64 1))) (LF (.k (.int .i64 4)))) ::
  (10008,.fb 8 true) ::
  (1000585,.call ⟨49,[.o (.c (.h 7))],[],.o (.g [.h 224,.h 225,.h 226,.h 227]),[]⟩) ::
  (1000587,.call ⟨38,[.o (.c (.h 7))],[],.o (.g [.h 228,.h 229,.h 230,.h 231]),[]⟩) ::
  (1000588,.call ⟨17,[.o (.g [.h 224,.h 225,.h 226,.h 227]),.o (.g [.h 228,.h 229,.h 230,.h 231])],[],.o (.c (.h 232)),[]⟩)::[]:List (Nat×Ent))) (k:=⟨8,[.o (.c (.h 0)),.o (.g [.h 1,.h 2,.h 3,.h 4]),.o (.g [.h 5,.h 6]),.o (.c (.h 7))],[],.o (.c (.h 232)),[]⟩) ⟨[],[],6⟩ [] 0 (zm ⟨(zC zE),za rfl,ze,za rfl,ze,za rfl,za rfl,za rfl,za rfl,za rfl,ze,za rfl,ze,za rfl,ze,za rfl,ze,za rfl,ze,za rfl,ze,za rfl,ze,za rfl,ze,za rfl,ze,za rfl,za rfl,za rfl,za rfl,za rfl,za rfl,za rfl,za rfl,za rfl,za rfl,za rfl,za rfl,za rfl,za rfl,za rfl,za rfl,za rfl,za rfl,za rfl,ze,za rfl,ze,za rfl,za rfl,ze,za rfl,ze,za rfl,za rfl,za rfl,za rfl,za rfl,za rfl,za rfl,za rfl,za rfl,za rfl,za rfl,za rfl,za rfl,za rfl,za rfl,za rfl,za rfl,za rfl,za rfl,za rfl,za rfl,za rfl,za rfl,ze,za rfl,ze,za rfl,za rfl,ze,za rfl,ze,za rfl,za rfl,za rfl,za rfl,za rfl,za rfl,za rfl,za rfl,za rfl,za rfl,za rfl,za rfl,za rfl,za rfl,za rfl,za rfl,za rfl,za rfl,za rfl,za rfl,za rfl,za rfl,za rfl,ze,za rfl,ze,za rfl,za rfl,ze,za rfl,ze,za rfl,za rfl,za rfl,za rfl,za rfl,za rfl,za rfl,za rfl,za rfl,za rfl,za rfl,za rfl,za rfl,za rfl,za rfl,za rfl,za rfl,za rfl,za rfl,za rfl,za rfl,za rfl,za rfl,ze,za rfl,ze,za rfl,za rfl,ze,za rfl,ze,za rfl,za rfl,za rfl,za rfl,za rfl,za rfl,za rfl,za rfl,za rfl,za rfl,za rfl,za rfl,za rfl,za rfl,za rfl,za rfl,za rfl,za rfl,za rfl,za rfl,za rfl,za rfl,za rfl,ze,za rfl,ze,za rfl,za rfl,ze,za rfl,ze,za rfl,za rfl,za rfl,za rfl,za rfl,za rfl,za rfl,ze,za rfl,ze,za rfl,ze,za rfl,ze,za rfl,za rfl,za rfl,ze,za rfl,ze,za rfl,ze,za rfl,ze,za rfl,za rfl,za rfl,ze,za rfl,ze,za rfl,ze,za rfl,ze,za rfl,za rfl,za rfl,ze,za rfl,ze,za rfl,ze,za rfl,ze,za rfl,za rfl,za rfl,ze,za rfl,ze,za rfl,ze,za rfl,ze,za rfl,trivial⟩) ⟨zc (qE hM hTS  v1 e1) rfl rfl rfl rfl,
  zc (zlo raw v2 e2) rfl rfl rfl rfl,
  zc (qL l v3 e3) rfl rfl rfl rfl,
  zc (zcm n v4 e4 s5 s6) rfl rfl rfl rfl,
  zc (q9 f v7 e7 s8 s9) rfl rfl rfl rfl,
  zc (zjM n v10 e10 s11 s12) rfl rfl rfl rfl,
  zsX (E:=28) (by kernel_rfl),
  zc (za6 v3 v13 v14 e13 e14) rfl rfl rfl rfl,
  zc (zbH v3 v15 v16 e15 e16) rfl rfl rfl rfl,
  zc (zb0 v3 v17 v18 e17 e18) rfl rfl rfl rfl,
  zc (zb6 v3 v19 v20 e19 e20) rfl rfl rfl rfl,
  zc (qO v3 v21 e21) rfl rfl rfl rfl,
  zc (qv v3 v22 e22) rfl rfl rfl rfl,
  e_bin (zb rfl) (zb rfl) (zb rfl) (fun W X Y=>by rw [← e23];exact r_bne (by kernel_rfl) W X Y),
  e_fb (show pV (.bool v23)=_ by rw [h24]),
  zc (qS v3 v25 e25) rfl rfl rfl rfl,
  zc (zb7 v3 v26 e26) rfl rfl rfl rfl,
  e_bin (zb rfl) (zb rfl) (zb rfl) (r_cmp (congrArg some e27)),
  e_fb (show pV (.bool v27)=_ by rw [h28]),
  e_bin (zb rfl) (zb rfl) (zb rfl) (r_cmp (congrArg some e29)),
  e_fb (show pV (.bool v29)=_ by rw [h30]),
  e_bin (zb rfl) (zb rfl) (zb rfl) (fun W X Y=>by rw [← e31];exact r_bne (by kernel_rfl) W X Y),
  e_fb (show pV (.bool v31)=_ by rw [h32]),
  e_bin (zb rfl) (zb rfl) (zb rfl) (r_cmp (congrArg some e33)),
  e_fb (show pV (.bool v33)=_ by rw [h34]),
  e_bin (zb rfl) (zb rfl) (zb rfl) (fun W X Y=>by rw [← e35];exact r_bne (by kernel_rfl) W X Y),
  e_fb (show pV (.bool v35)=_ by rw [h36]),
  zc (f_rof v3.1 v3.2 v37 v38 e37 e38) rfl rfl rfl rfl,
  zc (zby v3.1 v3.2 v39 v40 e39 e40) rfl rfl rfl rfl,
  e_bin (zb rfl) (zb rfl) (zb rfl) (fun W X Y=>by rw [← e41];exact r_bne (by kernel_rfl) W X Y),
  e_fb (show pV (.bool v41)=_ by rw [h42]),
  zc (zY v37 v39 v43 e43) rfl rfl rfl rfl,
  e_un (zb rfl) (zb rfl) (fun W=>by rw [← e44];exact r_not W),
  e_fb (show pV (.bool v44)=_ by rw [h45]),
  e_bin zg zg zg (r_ar rfl),
  zc (za6 v2 v46 v47 e46 e47) rfl rfl rfl rfl,
  zc (zbH v2 v48 v49 e48 e49) rfl rfl rfl rfl,
  zc (zb0 v2 v50 v51 e50 e51) rfl rfl rfl rfl,
  zc (zb6 v2 v52 v53 e52 e53) rfl rfl rfl rfl,
  zc (qO v2 v54 e54) rfl rfl rfl rfl,
  zc (qv v2 v55 e55) rfl rfl rfl rfl,
  e_bin (zb rfl) (zb rfl) (zb rfl) (fun W X Y=>by rw [← e56];exact r_bne (by kernel_rfl) W X Y),
  e_fb (show pV (.bool v56)=_ by rw [h57]),
  zc (qS v2 v58 e58) rfl rfl rfl rfl,
  zc (zb7 v2 v59 e59) rfl rfl rfl rfl,
  e_bin (zb rfl) (zb rfl) (zb rfl) (r_cmp (congrArg some e60)),
  e_fb (show pV (.bool v60)=_ by rw [h61]),
  e_bin (zb rfl) (zb rfl) (zb rfl) (r_cmp (congrArg some e62)),
  e_fb (show pV (.bool v62)=_ by rw [h63]),
  e_bin (zb rfl) (zb rfl) (zb rfl) (fun W X Y=>by rw [← e64];exact r_bne (by kernel_rfl) W X Y),
  e_fb (show pV (.bool v64)=_ by rw [h65]),
  e_bin (zb rfl) (zb rfl) (zb rfl) (r_cmp (congrArg some e66)),
  e_fb (show pV (.bool v66)=_ by rw [h67]),
  e_bin (zb rfl) (zb rfl) (zb rfl) (fun W X Y=>by rw [← e68];exact r_bne (by kernel_rfl) W X Y),
  e_fb (show pV (.bool v68)=_ by rw [h69]),
  zc (f_rof v2.1 v2.2 v70 v71 e70 e71) rfl rfl rfl rfl,
  zc (zby v2.1 v2.2 v72 v73 e72 e73) rfl rfl rfl rfl,
  e_bin (zb rfl) (zb rfl) (zb rfl) (fun W X Y=>by rw [← e74];exact r_bne (by kernel_rfl) W X Y),
  e_fb (show pV (.bool v74)=_ by rw [h75]),
  zc (zY v70 v72 v76 e76) rfl rfl rfl rfl,
  e_un (zb rfl) (zb rfl) (fun W=>by rw [← e77];exact r_not W),
  e_fb (show pV (.bool v77)=_ by rw [h78]),
  e_bin zg zg zg (r_ar rfl),
  zc (za6 (v2.1,v4) v79 v80 e79 e80) rfl rfl rfl rfl,
  zc (zbH (v2.1,v4) v81 v82 e81 e82) rfl rfl rfl rfl,
  zc (zb0 (v2.1,v4) v83 v84 e83 e84) rfl rfl rfl rfl,
  zc (zb6 (v2.1,v4) v85 v86 e85 e86) rfl rfl rfl rfl,
  zc (qO (v2.1,v4) v87 e87) rfl rfl rfl rfl,
  zc (qv (v2.1,v4) v88 e88) rfl rfl rfl rfl,
  e_bin (zb rfl) (zb rfl) (zb rfl) (fun W X Y=>by rw [← e89];exact r_bne (by kernel_rfl) W X Y),
  e_fb (show pV (.bool v89)=_ by rw [h90]),
  zc (qS (v2.1,v4) v91 e91) rfl rfl rfl rfl,
  zc (zb7 (v2.1,v4) v92 e92) rfl rfl rfl rfl,
  e_bin (zb rfl) (zb rfl) (zb rfl) (r_cmp (congrArg some e93)),
  e_fb (show pV (.bool v93)=_ by rw [h94]),
  e_bin (zb rfl) (zb rfl) (zb rfl) (r_cmp (congrArg some e95)),
  e_fb (show pV (.bool v95)=_ by rw [h96]),
  e_bin (zb rfl) (zb rfl) (zb rfl) (fun W X Y=>by rw [← e97];exact r_bne (by kernel_rfl) W X Y),
  e_fb (show pV (.bool v97)=_ by rw [h98]),
  e_bin (zb rfl) (zb rfl) (zb rfl) (r_cmp (congrArg some e99)),
  e_fb (show pV (.bool v99)=_ by rw [h100]),
  e_bin (zb rfl) (zb rfl) (zb rfl) (fun W X Y=>by rw [← e101];exact r_bne (by kernel_rfl) W X Y),
  e_fb (show pV (.bool v101)=_ by rw [h102]),
  zc (f_rof v2.1 v4 v103 v104 e103 e104) rfl rfl rfl rfl,
  zc (zby v2.1 v4 v105 v106 e105 e106) rfl rfl rfl rfl,
  e_bin (zb rfl) (zb rfl) (zb rfl) (fun W X Y=>by rw [← e107];exact r_bne (by kernel_rfl) W X Y),
  e_fb (show pV (.bool v107)=_ by rw [h108]),
  zc (zY v103 v105 v109 e109) rfl rfl rfl rfl,
  e_un (zb rfl) (zb rfl) (fun W=>by rw [← e110];exact r_not W),
  e_fb (show pV (.bool v110)=_ by rw [h111]),
  e_bin zg zg zg (r_ar rfl),
  zc (za6 v7 v112 v113 e112 e113) rfl rfl rfl rfl,
  zc (zbH v7 v114 v115 e114 e115) rfl rfl rfl rfl,
  zc (zb0 v7 v116 v117 e116 e117) rfl rfl rfl rfl,
  zc (zb6 v7 v118 v119 e118 e119) rfl rfl rfl rfl,
  zc (qO v7 v120 e120) rfl rfl rfl rfl,
  zc (qv v7 v121 e121) rfl rfl rfl rfl,
  e_bin (zb rfl) (zb rfl) (zb rfl) (fun W X Y=>by rw [← e122];exact r_bne (by kernel_rfl) W X Y),
  e_fb (show pV (.bool v122)=_ by rw [h123]),
  zc (qS v7 v124 e124) rfl rfl rfl rfl,
  zc (zb7 v7 v125 e125) rfl rfl rfl rfl,
  e_bin (zb rfl) (zb rfl) (zb rfl) (r_cmp (congrArg some e126)),
  e_fb (show pV (.bool v126)=_ by rw [h127]),
  e_bin (zb rfl) (zb rfl) (zb rfl) (r_cmp (congrArg some e128)),
  e_fb (show pV (.bool v128)=_ by rw [h129]),
  e_bin (zb rfl) (zb rfl) (zb rfl) (fun W X Y=>by rw [← e130];exact r_bne (by kernel_rfl) W X Y),
  e_fb (show pV (.bool v130)=_ by rw [h131]),
  e_bin (zb rfl) (zb rfl) (zb rfl) (r_cmp (congrArg some e132)),
  e_fb (show pV (.bool v132)=_ by rw [h133]),
  e_bin (zb rfl) (zb rfl) (zb rfl) (fun W X Y=>by rw [← e134];exact r_bne (by kernel_rfl) W X Y),
  e_fb (show pV (.bool v134)=_ by rw [h135]),
  zc (f_rof v7.1 v7.2 v136 v137 e136 e137) rfl rfl rfl rfl,
  zc (zby v7.1 v7.2 v138 v139 e138 e139) rfl rfl rfl rfl,
  e_bin (zb rfl) (zb rfl) (zb rfl) (fun W X Y=>by rw [← e140];exact r_bne (by kernel_rfl) W X Y),
  e_fb (show pV (.bool v140)=_ by rw [h141]),
  zc (zY v136 v138 v142 e142) rfl rfl rfl rfl,
  e_un (zb rfl) (zb rfl) (fun W=>by rw [← e143];exact r_not W),
  e_fb (show pV (.bool v143)=_ by rw [h144]),
  e_bin zg zg zg (r_ar rfl),
  zc (za6 v10 v145 v146 e145 e146) rfl rfl rfl rfl,
  zc (zbH v10 v147 v148 e147 e148) rfl rfl rfl rfl,
  zc (zb0 v10 v149 v150 e149 e150) rfl rfl rfl rfl,
  zc (zb6 v10 v151 v152 e151 e152) rfl rfl rfl rfl,
  zc (qO v10 v153 e153) rfl rfl rfl rfl,
  zc (qv v10 v154 e154) rfl rfl rfl rfl,
  e_bin (zb rfl) (zb rfl) (zb rfl) (fun W X Y=>by rw [← e155];exact r_bne (by kernel_rfl) W X Y),
  e_fb (show pV (.bool v155)=_ by rw [h156]),
  zc (qS v10 v157 e157) rfl rfl rfl rfl,
  zc (zb7 v10 v158 e158) rfl rfl rfl rfl,
  e_bin (zb rfl) (zb rfl) (zb rfl) (r_cmp (congrArg some e159)),
  e_fb (show pV (.bool v159)=_ by rw [h160]),
  e_bin (zb rfl) (zb rfl) (zb rfl) (r_cmp (congrArg some e161)),
  e_fb (show pV (.bool v161)=_ by rw [h162]),
  e_bin (zb rfl) (zb rfl) (zb rfl) (fun W X Y=>by rw [← e163];exact r_bne (by kernel_rfl) W X Y),
  e_fb (show pV (.bool v163)=_ by rw [h164]),
  e_bin (zb rfl) (zb rfl) (zb rfl) (r_cmp (congrArg some e165)),
  e_fb (show pV (.bool v165)=_ by rw [h166]),
  e_bin (zb rfl) (zb rfl) (zb rfl) (fun W X Y=>by rw [← e167];exact r_bne (by kernel_rfl) W X Y),
  e_fb (show pV (.bool v167)=_ by rw [h168]),
  zc (f_rof v10.1 v10.2 v169 v170 e169 e170) rfl rfl rfl rfl,
  zc (zby v10.1 v10.2 v171 v172 e171 e172) rfl rfl rfl rfl,
  e_bin (zb rfl) (zb rfl) (zb rfl) (fun W X Y=>by rw [← e173];exact r_bne (by kernel_rfl) W X Y),
  e_fb (show pV (.bool v173)=_ by rw [h174]),
  zc (zY v169 v171 v175 e175) rfl rfl rfl rfl,
  e_un (zb rfl) (zb rfl) (fun W=>by rw [← e176];exact r_not W),
  e_fb (show pV (.bool v176)=_ by rw [h177]),
  e_bin zg zg zg (r_ar rfl),
  e_bin (zb rfl) zg (zb rfl) (r_ar ((zas (by decide)).trans (congrArg some e178))),
  e_bin (zb rfl) zg (zb rfl) (r_ar ((zas (by decide)).trans (congrArg some e179))),
  zsX (E:=54) (by kernel_rfl),
  zc (zc8 f v180 e180 s181 s182) rfl rfl rfl rfl,
  zc (q9 f v183 e183 s184 s185) rfl rfl rfl rfl,
  zc (zY v180 v183 v186 e186) rfl rfl rfl rfl,
  e_un (zb rfl) (zb rfl) (fun W=>by rw [← e187];exact r_not W),
  e_fb (show pV (.bool v187)=_ by rw [h188]),
  e_bin zg zg zg (r_ar rfl),
  zc (zc8 (v178,v179) v189 e189 s190 s191) rfl rfl rfl rfl,
  zc (q9 (v178,v179) v192 e192 s193 s194) rfl rfl rfl rfl,
  zc (zY v189 v192 v195 e195) rfl rfl rfl rfl,
  e_un (zb rfl) (zb rfl) (fun W=>by rw [← e196];exact r_not W),
  e_fb (show pV (.bool v196)=_ by rw [h197]),
  e_bin zg zg zg (r_ar rfl),
  zc (zc8 (n,(1:Int)) v198 e198 s199 s200) rfl rfl rfl rfl,
  zc (q9 (n,(1:Int)) v201 e201 s202 s203) rfl rfl rfl rfl,
  zc (zY v198 v201 v204 e204) rfl rfl rfl rfl,
  e_un (zb rfl) (zb rfl) (fun W=>by rw [← e205];exact r_not W),
  e_fb (show pV (.bool v205)=_ by rw [h206]),
  e_bin zg zg zg (r_ar rfl),
  zc (zc8 ((1:Int),n) v207 e207 s208 s209) rfl rfl rfl rfl,
  zc (q9 ((1:Int),n) v210 e210 s211 s212) rfl rfl rfl rfl,
  zc (zY v207 v210 v213 e213) rfl rfl rfl rfl,
  e_un (zb rfl) (zb rfl) (fun W=>by rw [← e214];exact r_not W),
  e_fb (show pV (.bool v214)=_ by rw [h215]),
  e_bin zg zg zg (r_ar rfl),
  e_fb (show pV (.bool v1)=_ by rw [h216]),
  zc (zfF n v217 e217 s218 s219) rfl rfl rfl rfl,
  zc (zjM n v220 e220 s221 s222) rfl rfl rfl rfl,
  zc (zY v217 v220 v223 e223) rfl rfl rfl rfl,
  trivial⟩ mixed trivial (fun _ _ _ _ _ hs=>by cases hs) (by kernel_rfl)) rfl rfl rfl rfl
theorem zbS (l:(List Int)) (raw:RR) (f:(Int×Int)) (n:Int) (i1:InR f.1) (i2:InR f.2) (i3:InR n):-9223372036854775808≤n:=by (unfold InR at *;omega)
theorem zbT (l:(List Int)) (raw:RR) (f:(Int×Int)) (n:Int) (i1:InR f.1) (i2:InR f.2) (i3:InR n):n<9223372036854775808:=by (unfold InR at *;omega)
theorem zcO (l:(List Int)) (raw:RR) (f:(Int×Int)) (n:Int) (i1:InR f.1) (i2:InR f.2) (i3:InR n):InR f.1:=by (have a1:=Int.tmod_lt_of_pos f.1 (show (0:Int)<100 by decide);have a2:=Int.lt_tmod_of_pos f.1 (show (0:Int)<100 by decide);have a3:=Int.tmod_lt_of_pos f.2 (show (0:Int)<100 by decide);have a4:=Int.lt_tmod_of_pos f.2 (show (0:Int)<100 by decide);unfold InR at *;(try dsimp only);omega)
theorem zcP (l:(List Int)) (raw:RR) (f:(Int×Int)) (n:Int) (i1:InR f.1) (i2:InR f.2) (i3:InR n):InR f.2:=by (have a1:=Int.tmod_lt_of_pos f.1 (show (0:Int)<100 by decide);have a2:=Int.lt_tmod_of_pos f.1 (show (0:Int)<100 by decide);have a3:=Int.tmod_lt_of_pos f.2 (show (0:Int)<100 by decide);have a4:=Int.lt_tmod_of_pos f.2 (show (0:Int)<100 by decide);unfold InR at *;(try dsimp only);omega)
theorem zid (l:(List Int)) (raw:RR) (f:(Int×Int)) (n:Int) (i1:InR f.1) (i2:InR f.2) (i3:InR n):(!((rrX (rq (madeR l)).1 (rq (madeR l)).2) == (rrX (rq (madeR l)).1 (rq (madeR l)).2)))=false:=by simp
theorem zie (l:(List Int)) (raw:RR) (f:(Int×Int)) (n:Int) (i1:InR f.1) (i2:InR f.2) (i3:InR n):(((sgX (rq (madeR l)).1 (rq (madeR l)).2) != (sgX (rq (madeR l)).1 (rq (madeR l)).2)))=false:=by simp
theorem zif (l:(List Int)) (raw:RR) (f:(Int×Int)) (n:Int) (i1:InR f.1) (i2:InR f.2) (i3:InR n):(((vO (flX (rq (madeR l)).1 (rq (madeR l)).2)) != (vO (flX (rq (madeR l)).1 (rq (madeR l)).2))))=false:=by simp
theorem zig (l:(List Int)) (raw:RR) (f:(Int×Int)) (n:Int) (i1:InR f.1) (i2:InR f.2) (i3:InR n):(!((okO (flX (rq (madeR l)).1 (rq (madeR l)).2)) == (okO (flX (rq (madeR l)).1 (rq (madeR l)).2))))=false:=by simp
theorem zih (l:(List Int)) (raw:RR) (f:(Int×Int)) (n:Int) (i1:InR f.1) (i2:InR f.2) (i3:InR n):(((vO (ceX (rq (madeR l)).1 (rq (madeR l)).2)) != (vO (ceX (rq (madeR l)).1 (rq (madeR l)).2))))=false:=by simp
theorem zii (l:(List Int)) (raw:RR) (f:(Int×Int)) (n:Int) (i1:InR f.1) (i2:InR f.2) (i3:InR n):(!((okO (ceX (rq (madeR l)).1 (rq (madeR l)).2)) == (okO (ceX (rq (madeR l)).1 (rq (madeR l)).2))))=false:=by simp
theorem zij (l:(List Int)) (raw:RR) (f:(Int×Int)) (n:Int) (i1:InR f.1) (i2:InR f.2) (i3:InR n):(!(((ofX (rq (madeR l)).1 (rq (madeR l)).2).isSome) == ((ofX (rq (madeR l)).1 (rq (madeR l)).2).isSome)))=false:=by simp
theorem zik (l:(List Int)) (raw:RR) (f:(Int×Int)) (n:Int) (i1:InR f.1) (i2:InR f.2) (i3:InR n):(!(decide ((rq (ofX (rq (madeR l)).1 (rq (madeR l)).2))=(rq (ofX (rq (madeR l)).1 (rq (madeR l)).2)))))=false:=by simp
theorem zil (l:(List Int)) (raw:RR) (f:(Int×Int)) (n:Int) (i1:InR f.1) (i2:InR f.2) (i3:InR n):(!((rrX (zJ raw).1 (zJ raw).2) == (rrX (zJ raw).1 (zJ raw).2)))=false:=by simp
theorem zim (l:(List Int)) (raw:RR) (f:(Int×Int)) (n:Int) (i1:InR f.1) (i2:InR f.2) (i3:InR n):(((sgX (zJ raw).1 (zJ raw).2) != (sgX (zJ raw).1 (zJ raw).2)))=false:=by simp
theorem zin (l:(List Int)) (raw:RR) (f:(Int×Int)) (n:Int) (i1:InR f.1) (i2:InR f.2) (i3:InR n):(((vO (flX (zJ raw).1 (zJ raw).2)) != (vO (flX (zJ raw).1 (zJ raw).2))))=false:=by simp
theorem zio (l:(List Int)) (raw:RR) (f:(Int×Int)) (n:Int) (i1:InR f.1) (i2:InR f.2) (i3:InR n):(!((okO (flX (zJ raw).1 (zJ raw).2)) == (okO (flX (zJ raw).1 (zJ raw).2))))=false:=by simp
theorem ziq (l:(List Int)) (raw:RR) (f:(Int×Int)) (n:Int) (i1:InR f.1) (i2:InR f.2) (i3:InR n):(((vO (ceX (zJ raw).1 (zJ raw).2)) != (vO (ceX (zJ raw).1 (zJ raw).2))))=false:=by simp
theorem zir (l:(List Int)) (raw:RR) (f:(Int×Int)) (n:Int) (i1:InR f.1) (i2:InR f.2) (i3:InR n):(!((okO (ceX (zJ raw).1 (zJ raw).2)) == (okO (ceX (zJ raw).1 (zJ raw).2))))=false:=by simp
theorem zis (l:(List Int)) (raw:RR) (f:(Int×Int)) (n:Int) (i1:InR f.1) (i2:InR f.2) (i3:InR n):(!(((ofX (zJ raw).1 (zJ raw).2).isSome) == ((ofX (zJ raw).1 (zJ raw).2).isSome)))=false:=by simp
theorem zit (l:(List Int)) (raw:RR) (f:(Int×Int)) (n:Int) (i1:InR f.1) (i2:InR f.2) (i3:InR n):(!(decide ((rq (ofX (zJ raw).1 (zJ raw).2))=(rq (ofX (zJ raw).1 (zJ raw).2)))))=false:=by simp
theorem ziu (l:(List Int)) (raw:RR) (f:(Int×Int)) (n:Int) (i1:InR f.1) (i2:InR f.2) (i3:InR n):(!((rrX ((zJ raw).1,(nz n)).1 ((zJ raw).1,(nz n)).2) == (rrX ((zJ raw).1,(nz n)).1 ((zJ raw).1,(nz n)).2)))=false:=by simp
theorem ziv (l:(List Int)) (raw:RR) (f:(Int×Int)) (n:Int) (i1:InR f.1) (i2:InR f.2) (i3:InR n):(((sgX ((zJ raw).1,(nz n)).1 ((zJ raw).1,(nz n)).2) != (sgX ((zJ raw).1,(nz n)).1 ((zJ raw).1,(nz n)).2)))=false:=by simp
theorem ziw (l:(List Int)) (raw:RR) (f:(Int×Int)) (n:Int) (i1:InR f.1) (i2:InR f.2) (i3:InR n):(((vO (flX ((zJ raw).1,(nz n)).1 ((zJ raw).1,(nz n)).2)) != (vO (flX ((zJ raw).1,(nz n)).1 ((zJ raw).1,(nz n)).2))))=false:=by simp
theorem zix (l:(List Int)) (raw:RR) (f:(Int×Int)) (n:Int) (i1:InR f.1) (i2:InR f.2) (i3:InR n):(!((okO (flX ((zJ raw).1,(nz n)).1 ((zJ raw).1,(nz n)).2)) == (okO (flX ((zJ raw).1,(nz n)).1 ((zJ raw).1,(nz n)).2))))=false:=by simp
theorem zgd (l:(List Int)) (raw:RR) (f:(Int×Int)) (n:Int) (i1:InR f.1) (i2:InR f.2) (i3:InR n):(((vO (ceX ((zJ raw).1,(nz n)).1 ((zJ raw).1,(nz n)).2)) != (vO (ceX ((zJ raw).1,(nz n)).1 ((zJ raw).1,(nz n)).2))))=false:=by simp
theorem zge (l:(List Int)) (raw:RR) (f:(Int×Int)) (n:Int) (i1:InR f.1) (i2:InR f.2) (i3:InR n):(!((okO (ceX ((zJ raw).1,(nz n)).1 ((zJ raw).1,(nz n)).2)) == (okO (ceX ((zJ raw).1,(nz n)).1 ((zJ raw).1,(nz n)).2))))=false:=by simp
theorem zgf (l:(List Int)) (raw:RR) (f:(Int×Int)) (n:Int) (i1:InR f.1) (i2:InR f.2) (i3:InR n):(!(((ofX (zJ raw).1 (nz n)).isSome) == ((ofX (zJ raw).1 (nz n)).isSome)))=false:=by simp
theorem zgg (l:(List Int)) (raw:RR) (f:(Int×Int)) (n:Int) (i1:InR f.1) (i2:InR f.2) (i3:InR n):(!(decide ((rq (ofX (zJ raw).1 (nz n)))=(rq (ofX (zJ raw).1 (nz n))))))=false:=by simp
theorem zgh (l:(List Int)) (raw:RR) (f:(Int×Int)) (n:Int) (i1:InR f.1) (i2:InR f.2) (i3:InR n):(!((rrX (rq (fracR f.1 f.2)).1 (rq (fracR f.1 f.2)).2) == (rrX (rq (fracR f.1 f.2)).1 (rq (fracR f.1 f.2)).2)))=false:=by simp
theorem zgi (l:(List Int)) (raw:RR) (f:(Int×Int)) (n:Int) (i1:InR f.1) (i2:InR f.2) (i3:InR n):(((sgX (rq (fracR f.1 f.2)).1 (rq (fracR f.1 f.2)).2) != (sgX (rq (fracR f.1 f.2)).1 (rq (fracR f.1 f.2)).2)))=false:=by simp
theorem zgj (l:(List Int)) (raw:RR) (f:(Int×Int)) (n:Int) (i1:InR f.1) (i2:InR f.2) (i3:InR n):(((vO (flX (rq (fracR f.1 f.2)).1 (rq (fracR f.1 f.2)).2)) != (vO (flX (rq (fracR f.1 f.2)).1 (rq (fracR f.1 f.2)).2))))=false:=by simp
theorem zgk (l:(List Int)) (raw:RR) (f:(Int×Int)) (n:Int) (i1:InR f.1) (i2:InR f.2) (i3:InR n):(!((okO (flX (rq (fracR f.1 f.2)).1 (rq (fracR f.1 f.2)).2)) == (okO (flX (rq (fracR f.1 f.2)).1 (rq (fracR f.1 f.2)).2))))=false:=by simp
theorem zgl (l:(List Int)) (raw:RR) (f:(Int×Int)) (n:Int) (i1:InR f.1) (i2:InR f.2) (i3:InR n):(((vO (ceX (rq (fracR f.1 f.2)).1 (rq (fracR f.1 f.2)).2)) != (vO (ceX (rq (fracR f.1 f.2)).1 (rq (fracR f.1 f.2)).2))))=false:=by simp
theorem zgm (l:(List Int)) (raw:RR) (f:(Int×Int)) (n:Int) (i1:InR f.1) (i2:InR f.2) (i3:InR n):(!((okO (ceX (rq (fracR f.1 f.2)).1 (rq (fracR f.1 f.2)).2)) == (okO (ceX (rq (fracR f.1 f.2)).1 (rq (fracR f.1 f.2)).2))))=false:=by simp
theorem zgn (l:(List Int)) (raw:RR) (f:(Int×Int)) (n:Int) (i1:InR f.1) (i2:InR f.2) (i3:InR n):(!(((ofX (rq (fracR f.1 f.2)).1 (rq (fracR f.1 f.2)).2).isSome) == ((ofX (rq (fracR f.1 f.2)).1 (rq (fracR f.1 f.2)).2).isSome)))=false:=by simp
theorem zgo (l:(List Int)) (raw:RR) (f:(Int×Int)) (n:Int) (i1:InR f.1) (i2:InR f.2) (i3:InR n):(!(decide ((rq (ofX (rq (fracR f.1 f.2)).1 (rq (fracR f.1 f.2)).2))=(rq (ofX (rq (fracR f.1 f.2)).1 (rq (fracR f.1 f.2)).2)))))=false:=by simp
theorem zgp (l:(List Int)) (raw:RR) (f:(Int×Int)) (n:Int) (i1:InR f.1) (i2:InR f.2) (i3:InR n):(!((rrX ((nz n,nz 1)).1 ((nz n,nz 1)).2) == (rrX ((nz n,nz 1)).1 ((nz n,nz 1)).2)))=false:=by simp
theorem zgq (l:(List Int)) (raw:RR) (f:(Int×Int)) (n:Int) (i1:InR f.1) (i2:InR f.2) (i3:InR n):(((sgX ((nz n,nz 1)).1 ((nz n,nz 1)).2) != (sgX ((nz n,nz 1)).1 ((nz n,nz 1)).2)))=false:=by simp
theorem zgr (l:(List Int)) (raw:RR) (f:(Int×Int)) (n:Int) (i1:InR f.1) (i2:InR f.2) (i3:InR n):(((vO (flX ((nz n,nz 1)).1 ((nz n,nz 1)).2)) != (vO (flX ((nz n,nz 1)).1 ((nz n,nz 1)).2))))=false:=by simp
theorem zgs (l:(List Int)) (raw:RR) (f:(Int×Int)) (n:Int) (i1:InR f.1) (i2:InR f.2) (i3:InR n):(!((okO (flX ((nz n,nz 1)).1 ((nz n,nz 1)).2)) == (okO (flX ((nz n,nz 1)).1 ((nz n,nz 1)).2))))=false:=by simp
theorem zgt (l:(List Int)) (raw:RR) (f:(Int×Int)) (n:Int) (i1:InR f.1) (i2:InR f.2) (i3:InR n):(((vO (ceX ((nz n,nz 1)).1 ((nz n,nz 1)).2)) != (vO (ceX ((nz n,nz 1)).1 ((nz n,nz 1)).2))))=false:=by simp
theorem zgu (l:(List Int)) (raw:RR) (f:(Int×Int)) (n:Int) (i1:InR f.1) (i2:InR f.2) (i3:InR n):(!((okO (ceX ((nz n,nz 1)).1 ((nz n,nz 1)).2)) == (okO (ceX ((nz n,nz 1)).1 ((nz n,nz 1)).2))))=false:=by simp
theorem zgv (l:(List Int)) (raw:RR) (f:(Int×Int)) (n:Int) (i1:InR f.1) (i2:InR f.2) (i3:InR n):(!(((ofX ((nz n,nz 1)).1 ((nz n,nz 1)).2).isSome) == ((ofX ((nz n,nz 1)).1 ((nz n,nz 1)).2).isSome)))=false:=by simp
theorem zgw (l:(List Int)) (raw:RR) (f:(Int×Int)) (n:Int) (i1:InR f.1) (i2:InR f.2) (i3:InR n):(!(decide ((rq (ofX ((nz n,nz 1)).1 ((nz n,nz 1)).2))=(rq (ofX ((nz n,nz 1)).1 ((nz n,nz 1)).2)))))=false:=by simp
theorem zgx (l:(List Int)) (raw:RR) (f:(Int×Int)) (n:Int) (i1:InR f.1) (i2:InR f.2) (i3:InR n):(!(decide ((rq (fracR f.1 f.2))=(rq (fracR f.1 f.2)))))=false:=by simp
theorem zdg (l:(List Int)) (raw:RR) (f:(Int×Int)) (n:Int) (i1:InR f.1) (i2:InR f.2) (i3:InR n):InR (((f.1:Int).tmod (100:Int)),((f.2:Int).tmod (100:Int))).1:=by (have a1:=Int.tmod_lt_of_pos f.1 (show (0:Int)<100 by decide);have a2:=Int.lt_tmod_of_pos f.1 (show (0:Int)<100 by decide);have a3:=Int.tmod_lt_of_pos f.2 (show (0:Int)<100 by decide);have a4:=Int.lt_tmod_of_pos f.2 (show (0:Int)<100 by decide);unfold InR at *;(try dsimp only);omega)
theorem zdh (l:(List Int)) (raw:RR) (f:(Int×Int)) (n:Int) (i1:InR f.1) (i2:InR f.2) (i3:InR n):InR (((f.1:Int).tmod (100:Int)),((f.2:Int).tmod (100:Int))).2:=by (have a1:=Int.tmod_lt_of_pos f.1 (show (0:Int)<100 by decide);have a2:=Int.lt_tmod_of_pos f.1 (show (0:Int)<100 by decide);have a3:=Int.tmod_lt_of_pos f.2 (show (0:Int)<100 by decide);have a4:=Int.lt_tmod_of_pos f.2 (show (0:Int)<100 by decide);unfold InR at *;(try dsimp only);omega)
theorem zgy (l:(List Int)) (raw:RR) (f:(Int×Int)) (n:Int) (i1:InR f.1) (i2:InR f.2) (i3:InR n):(!(decide ((rq (fracR (((f.1:Int).tmod (100:Int)),((f.2:Int).tmod (100:Int))).1 (((f.1:Int).tmod (100:Int)),((f.2:Int).tmod (100:Int))).2))=(rq (fracR (((f.1:Int).tmod (100:Int)),((f.2:Int).tmod (100:Int))).1 (((f.1:Int).tmod (100:Int)),((f.2:Int).tmod (100:Int))).2)))))=false:=by simp
theorem zdi (l:(List Int)) (raw:RR) (f:(Int×Int)) (n:Int) (i1:InR f.1) (i2:InR f.2) (i3:InR n):InR (n,(1:Int)).1:=by (have a1:=Int.tmod_lt_of_pos f.1 (show (0:Int)<100 by decide);have a2:=Int.lt_tmod_of_pos f.1 (show (0:Int)<100 by decide);have a3:=Int.tmod_lt_of_pos f.2 (show (0:Int)<100 by decide);have a4:=Int.lt_tmod_of_pos f.2 (show (0:Int)<100 by decide);unfold InR at *;(try dsimp only);omega)
theorem zdj (l:(List Int)) (raw:RR) (f:(Int×Int)) (n:Int) (i1:InR f.1) (i2:InR f.2) (i3:InR n):InR (n,(1:Int)).2:=by (have a1:=Int.tmod_lt_of_pos f.1 (show (0:Int)<100 by decide);have a2:=Int.lt_tmod_of_pos f.1 (show (0:Int)<100 by decide);have a3:=Int.tmod_lt_of_pos f.2 (show (0:Int)<100 by decide);have a4:=Int.lt_tmod_of_pos f.2 (show (0:Int)<100 by decide);unfold InR at *;(try dsimp only);omega)
theorem zgz (l:(List Int)) (raw:RR) (f:(Int×Int)) (n:Int) (i1:InR f.1) (i2:InR f.2) (i3:InR n):(!(decide ((rq (fracR (n,(1:Int)).1 (n,(1:Int)).2))=(rq (fracR (n,(1:Int)).1 (n,(1:Int)).2)))))=false:=by simp
theorem zdk (l:(List Int)) (raw:RR) (f:(Int×Int)) (n:Int) (i1:InR f.1) (i2:InR f.2) (i3:InR n):InR ((1:Int),n).1:=by (have a1:=Int.tmod_lt_of_pos f.1 (show (0:Int)<100 by decide);have a2:=Int.lt_tmod_of_pos f.1 (show (0:Int)<100 by decide);have a3:=Int.tmod_lt_of_pos f.2 (show (0:Int)<100 by decide);have a4:=Int.lt_tmod_of_pos f.2 (show (0:Int)<100 by decide);unfold InR at *;(try dsimp only);omega)
theorem zdl (l:(List Int)) (raw:RR) (f:(Int×Int)) (n:Int) (i1:InR f.1) (i2:InR f.2) (i3:InR n):InR ((1:Int),n).2:=by (have a1:=Int.tmod_lt_of_pos f.1 (show (0:Int)<100 by decide);have a2:=Int.lt_tmod_of_pos f.1 (show (0:Int)<100 by decide);have a3:=Int.tmod_lt_of_pos f.2 (show (0:Int)<100 by decide);have a4:=Int.lt_tmod_of_pos f.2 (show (0:Int)<100 by decide);unfold InR at *;(try dsimp only);omega)
theorem zgA (l:(List Int)) (raw:RR) (f:(Int×Int)) (n:Int) (i1:InR f.1) (i2:InR f.2) (i3:InR n):(!(decide ((rq (fracR ((1:Int),n).1 ((1:Int),n).2))=(rq (fracR ((1:Int),n).1 ((1:Int),n).2)))))=false:=by simp
theorem zgB (l:(List Int)) (raw:RR) (f:(Int×Int)) (n:Int) (i1:InR f.1) (i2:InR f.2) (i3:InR n):(true)=true:=by simp
theorem zgC (l:(List Int)) (raw:RR) (f:(Int×Int)) (n:Int) (i1:InR f.1) (i2:InR f.2) (i3:InR n):decide (((nz n,nz 1))=((nz n,nz 1)))=true:=by simp
theorem zoO {w0:World} (hM:∀W,Below w0.heap.size w0 W→MaxT W) (hTS:∀W,Below w0.heap.size w0 W→PowT w0.heap.size W∧SynT w0.heap.size W) (l:(List Int)) (raw:RR) (f:(Int×Int)) (n:Int) (i1:InR f.1) (i2:InR f.2) (i3:InR n):Fun (KN w0) Tryz.prog 8 [.o (.c (pLs cI l)),.o (.g [pB raw.1.1,pD raw.1.2,pB raw.2.1,pD raw.2.2]),.o (.g [pI f.1,pI f.2]),.o (.c (pI n))] (.o (.c (pV (.bool true)))):=
 zlu l raw f n hM hTS _ _ _ _ _ _ _ _ _ _ _ _ _ _ _ _ _ _ _ _ _ _ _ _ _ _ _ _ _ _ _ _ _ _ _ _ _ _ _ _ _ _ _ _ _ _ _ _ _ _ _ _ _ _ _ _ _ _ _ _ _ _ _ _ _ _ _ _ _ _ _ _ _ _ _ _ _ _ _ _ _ _ _ _ _ _ _ _ _ _ _ _ _ _ _ _ _ _ _ _ _ _ _ _ _ _ _ _ _ _ _ _ _ _ _ _ _ _ _ _ _ _ _ _ _ _ _ _ _ _ _ _ _ _ _ _ _ _ _ _ _ _ _ _ _ _ _ _ _ _ _ _ rfl rfl rfl rfl rfl rfl rfl rfl rfl rfl rfl rfl rfl rfl rfl rfl rfl rfl rfl rfl rfl rfl rfl rfl rfl rfl rfl rfl rfl rfl rfl rfl rfl rfl rfl rfl rfl rfl rfl rfl rfl rfl rfl rfl rfl rfl rfl rfl rfl rfl rfl rfl rfl rfl rfl rfl rfl rfl rfl rfl rfl rfl rfl rfl rfl rfl rfl rfl rfl rfl rfl rfl rfl rfl rfl rfl rfl rfl rfl rfl rfl rfl rfl rfl rfl rfl rfl rfl rfl rfl rfl rfl rfl rfl rfl rfl rfl rfl rfl rfl rfl rfl rfl rfl rfl rfl rfl rfl rfl rfl rfl rfl rfl rfl rfl rfl rfl rfl rfl rfl rfl rfl rfl rfl rfl rfl rfl rfl rfl rfl rfl rfl rfl rfl rfl rfl rfl rfl rfl rfl rfl rfl rfl rfl rfl rfl rfl rfl rfl rfl rfl (zgC l raw f n i1 i2 i3) (zbS l raw f n i1 i2 i3) (zbT l raw f n i1 i2 i3) (zcO l raw f n i1 i2 i3) (zcP l raw f n i1 i2 i3) (zbS l raw f n i1 i2 i3) (zbT l raw f n i1 i2 i3) (zid l raw f n i1 i2 i3) (zie l raw f n i1 i2 i3) (zif l raw f n i1 i2 i3) (zig l raw f n i1 i2 i3) (zih l raw f n i1 i2 i3) (zii l raw f n i1 i2 i3) (zij l raw f n i1 i2 i3) (zik l raw f n i1 i2 i3) (zil l raw f n i1 i2 i3) (zim l raw f n i1 i2 i3) (zin l raw f n i1 i2 i3) (zio l raw f n i1 i2 i3) (ziq l raw f n i1 i2 i3) (zir l raw f n i1 i2 i3) (zis l raw f n i1 i2 i3) (zit l raw f n i1 i2 i3) (ziu l raw f n i1 i2 i3) (ziv l raw f n i1 i2 i3) (ziw l raw f n i1 i2 i3) (zix l raw f n i1 i2 i3) (zgd l raw f n i1 i2 i3) (zge l raw f n i1 i2 i3) (zgf l raw f n i1 i2 i3) (zgg l raw f n i1 i2 i3) (zgh l raw f n i1 i2 i3) (zgi l raw f n i1 i2 i3) (zgj l raw f n i1 i2 i3) (zgk l raw f n i1 i2 i3) (zgl l raw f n i1 i2 i3) (zgm l raw f n i1 i2 i3) (zgn l raw f n i1 i2 i3) (zgo l raw f n i1 i2 i3) (zgp l raw f n i1 i2 i3) (zgq l raw f n i1 i2 i3) (zgr l raw f n i1 i2 i3) (zgs l raw f n i1 i2 i3) (zgt l raw f n i1 i2 i3) (zgu l raw f n i1 i2 i3) (zgv l raw f n i1 i2 i3) (zgw l raw f n i1 i2 i3) (zcO l raw f n i1 i2 i3) (zcP l raw f n i1 i2 i3) (zcO l raw f n i1 i2 i3) (zcP l raw f n i1 i2 i3) (zgx l raw f n i1 i2 i3) (zdg l raw f n i1 i2 i3) (zdh l raw f n i1 i2 i3) (zdg l raw f n i1 i2 i3) (zdh l raw f n i1 i2 i3) (zgy l raw f n i1 i2 i3) (zdi l raw f n i1 i2 i3) (zdj l raw f n i1 i2 i3) (zdi l raw f n i1 i2 i3) (zdj l raw f n i1 i2 i3) (zgz l raw f n i1 i2 i3) (zdk l raw f n i1 i2 i3) (zdl l raw f n i1 i2 i3) (zdk l raw f n i1 i2 i3) (zdl l raw f n i1 i2 i3) (zgA l raw f n i1 i2 i3) (zgB l raw f n i1 i2 i3) (zbS l raw f n i1 i2 i3) (zbT l raw f n i1 i2 i3) (zbS l raw f n i1 i2 i3) (zbT l raw f n i1 i2 i3)
end Go.Proofs.YtccjiodohphgnaaGreatDoor
namespace Go.Proofs.YtccjiodohphgnaaGreatDoor
open Go.ChangeShapes Go.WideShapes Go.ChangeAt Go.RowKit Go.Joins Go.Deep
theorem zeD (os:Os) (started:os.Started) (H:Type) (enc:TypeId×Value→H) :
  ReturnsInHanded {} Tryz.checked os 8 .any (fun w args=>(Rows.ratioFormsSpec.pre enc Tryz.prog Tryz.f8 [] false w args∧laidMetH Tryz.prog laidL w)∧sizedMet enc Tryz.prog Tryz.f8 (OpenSpec.ofChange Rows.ratioFormsSpec) false w args)
   (Rows.ratioFormsSpec.post enc Tryz.prog Tryz.f8 false true false false):=by
 refine zaM (C:=Tryz.checked) (X:=fun w _=>laidMetH Tryz.prog laidL w) (fun _ _ _ hh h=>h.of_heap hh) Tryz.own started (by kernel_rfl) Tryz.func8
  (ChangeSpec.witness_shaped (enc:=enc) (C:=Tryz.checked) (os:=os) (X:=fun w _=>laidMetH Tryz.prog laidL w) false (World.doorLaid Tryz.prog 400 os) #[.slice none 0 0,.agg #[.bool false,.slice none 0 0,.bool false,.slice none 0 0],.agg #[.int .i64 0,.int .i64 0],.int .i64 0] 8 rfl (World.shaped_of_RefB (by kernel_rfl) (by kernel_rfl)) (by kernel_rfl) (by kernel_rfl) (by kernel_rfl) (zck os _)) ?_
 intro W base args ds gs before hval0 hW hL hsh
 have hval:∀(j:Nat) t v,Tryz.f8.params[j]?=some t→args[j]?=some v→Value.okWide Tryz.prog W .any base t v:=hval0
 have hW':=hW
 obtain ⟨p,q,hA0,hV,rfl,hfz,hnd⟩:=hW
 have hA:DataW.TrodAll enc Tryz.prog W 0 (fun _=>true) true Tryz.f8.params.toList args.toList ds p:=hA0
 rw [Tryz.params8] at hA hval
 obtain ⟨v0,v1,v2,v3,d0,d1,d2,d3,p0,p1,p2,p3,rfl,rfl,rfl,h0,h1,h2,h3⟩:=trodAll_four hA
 obtain ⟨x0,s0⟩:=zpa (hval 0 22 v0 rfl rfl) h0
 obtain ⟨x1,s1⟩:=zpc (hval 1 28 v1 rfl rfl) h1
 obtain ⟨x2,s2,a2,b2⟩:=zwD (hval 2 54 v2 rfl rfl) h2
 obtain ⟨x3,rfl,rfl,rfl,w3⟩:=open_int Tryz.underlying3 (hval 3 3 v3 rfl rfl) h3
 have s3:=bounds_i64 w3
 refine (zdv (args:=#[v0,v1,v2,.int .i64 x3]) (zoO (zcq hsh) (zcp hL) x0 x1 x2 x3 a2 b2 ⟨s3.1,by omega⟩) ⟨s0,s1,s2,rfl,trivial⟩).mono fun e W' ⟨he,hb⟩=>?_
 subst he
 exact ⟨_,rfl,zaK rfl Tryz.laidOut (by decide +kernel) 4 (by kernel_rfl) Tryz.underlying4 (fun d hd=>by match d,hd with | [_,_,_,_],_=>rfl) hW' hb⟩
theorem zfd:Rows.RatioFormsSaid:=
 OpenClaim.holds_of_wide 8 Tryz.f8 rfl rfl rfl rfl rfl rfl rfl ⟨rfl,rfl,rfl,rfl,rfl⟩ rfl rfl rfl rfl rfl (by kernel_rfl) Tryz.func8 (by kernel_rfl)
  (of_decide_eq_true (by kernel_rfl)) (by unfold Func.isWrapper;rw [if_neg (of_decide_eq_false (by kernel_rfl))];exact ⟨rfl,rfl⟩)
  (fun os started H enc _=>zeD os started H enc)
theorem ratioForms_card:Rows.RatioFormsCardSaid:=
 Claim7.holds_tied_plain_at .later [] [.data, .data, .data, .sentinel, .sentinel] true (true, "23681dedaca0e9c3ad04b644738b2c5c66df0499f44a887a8592b9d18a9871d5") true
  zfd (fun _ h=>by cases h) (by kernel_rfl) (fun _ h=>by cases h) ratioForms_row_tie rfl ⟨rfl,rfl⟩ (by kernel_rfl) rfl
  (fun f fn hf hfn=>by
   obtain rfl : f = 8 := Option.some.inj ((show Tryz.prog.funcNamed "collet/colletlaw03.RatioForms" = some 8 by kernel_rfl).symm.trans hf) |>.symm
   obtain rfl:fn=Tryz.f8:=(Option.some.inj (Tryz.func8.symm.trans hfn)).symm
   exact ⟨by kernel_rfl,fun j t ht=>by
    rw [Tryz.params8] at ht
    have hm:t∈[22,28,54,3]:=by simpa using Array.mem_of_getElem? ht
    have hall:([22,28,54,3].all fun u=>!Tryz.prog.wantsStandIn u)=true:=by kernel_rfl
    exact (show Tryz.prog.wantsStandIn t=false by simpa using List.all_eq_true.1 hall t hm)⟩)
  (by kernel_rfl)
end Go.Proofs.YtccjiodohphgnaaGreatDoor
