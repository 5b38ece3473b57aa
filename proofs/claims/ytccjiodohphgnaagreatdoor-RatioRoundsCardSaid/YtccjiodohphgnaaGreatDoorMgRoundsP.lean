/-
  RatioRounds is proved: whatever the input, the law returns true and each argument reads as it did, where the listed variables read as listed; and the card, which ties it to the program's text.
-/
import Derived.Test.YtccjiodohphgnaaGreatDoorMgAR
import Derived.Test.YtccjiodohphgnaaGreatDoorMgAV
import Derived.Test.YtccjiodohphgnaaGreatDoorCards
import Derived.Test.YtccjiodohphgnaaGreatDoorTie
import Derived.SevenTiedAt
set_option linter.unusedSimpArgs false
set_option linter.unusedVariables false
set_option maxRecDepth 100000
set_option maxHeartbeats 4000000
namespace Go.Proofs.YtccjiodohphgnaaGreatDoor
open Go.RowKit Go.Shelf
section
variable {k:Nat} {p q:Rat}
theorem zl8 {x:Int} (h:-9223372036854775808≤x∧x<9223372036854775808):fit64 x=some x:=by unfold fit64;rw [if_pos h]
theorem pow60 {x:Nat} (h:x<2 ^ k) (hk:k≤60):x<1152921504606846976:=Nat.lt_of_lt_of_le h (zfp hk)
theorem zok {x:Int} {d:Nat} (h:x.natAbs<1152921504606846976):-9223372036854775808≤x / (d:Int)∧x / (d:Int)<9223372036854775808:=by
 rcases Nat.eq_zero_or_pos d with h0 | h0
 ·subst h0;simp
 ·have h1:=Int.ediv_mul_le x (show (d:Int)≠0 by omega)
  have h2:=Int.lt_ediv_add_one_mul_self x (show (0:Int)<d by omega)
  generalize x / (d:Int)=y at h1 h2 ⊢
  have hd:(1:Int)≤d:=by omega
  constructor
  ·by_cases hy:y+1≤0
   ·have:(y+1)*(d:Int)≤(y+1)*1:=Int.mul_le_mul_of_nonpos_left hy hd
    omega
   ·omega
  ·by_cases hy:0≤y
   ·have:y*1≤y*(d:Int):=Int.mul_le_mul_of_nonneg_left hd hy
    omega
   ·omega
theorem zhK {x:Int} {d:Nat} (h:x.natAbs<1152921504606846976):(x / (d:Int)).natAbs<big:=by
 have:=zok (d:=d) h
 exact Nat.lt_of_lt_of_le (show (x / (d:Int)).natAbs<2 ^ 64 by (have e:(2:Nat) ^ 64=18446744073709551616:=(by decide));omega) (zhx (by decide))
theorem fl_sz (h:Sz k p) (hk:k≤60):flX (rq (some p)).1 (rq (some p)).2=some p.floor:=by
 have hn:=pow60 h.n hk
 unfold flX
 rw [if_pos (rr_sz h (by omega))]
 show intX (nz (dqO (divX (nz p.num) (nz (p.den:Int)))))=_
 rw [za5 (h.nb (by omega)) (by rw [Int.natAbs_natCast];exact h.db (by omega)) (zg1 p)]
 show intX (nz (p.num / (p.den:Int)))=_
 rw [zoK (zhK hn),zl8 (zok hn),Rat.floor_def]
theorem zs3 {x:Int} (h:x.natAbs<big):ngX (nz x)=nz (-x):=by
 unfold ngX
 rw [zpT (qd (by decide)) h,Int.zero_sub,zay (by rwa [Int.natAbs_neg])];rfl
theorem ce_sz (h:Sz k p) (hk:k≤60):ceX (rq (some p)).1 (rq (some p)).2=some p.ceil:=by
 have hn:=pow60 h.n hk
 have hn':(-p.num).natAbs<1152921504606846976:=by rwa [Int.natAbs_neg]
 have hi:=zok (d:=p.den) hn'
 unfold ceX
 rw [if_pos (rr_sz h (by omega))]
 show intX (ngX (nz (dqO (divX (ngX (nz p.num)) (nz (p.den:Int))))))=_
 rw [zs3 (h.nb (by omega)),za5 (by rw [Int.natAbs_neg];exact h.nb (by omega)) (by rw [Int.natAbs_natCast];exact h.db (by omega)) (zg1 p)]
 show intX (ngX (nz (-p.num / (p.den:Int))))=_
 have e:p.ceil=-(-p.num / (p.den:Int)):=by rw [Rat.ceil_eq_neg_floor_neg,Rat.floor_def,Rat.neg_num,Rat.neg_den]
 have hb:-9223372036854775808≤-(-p.num / (p.den:Int))∧-(-p.num / (p.den:Int))<9223372036854775808:=by
  have hlt:-1152921504606846976 < -p.num / (p.den:Int):=by
   have h2:=Int.lt_ediv_add_one_mul_self (-p.num) (show (0:Int)<p.den by have:=p.den_nz;omega)
   generalize -p.num / (p.den:Int)=y at h2 ⊢
   by_cases hy:y+1≤0
   ·have:(y+1)*(p.den:Int)≤(y+1)*1:=Int.mul_le_mul_of_nonpos_left hy (by have:=p.den_nz;omega)
    omega
   ·omega
  omega
 rw [zs3 (zhK hn'),zoK (by rw [Int.natAbs_neg];exact zhK hn'),zl8 hb,e]
theorem zU {a:Int} (h:a.natAbs<2 ^ k) (hk:0<k):Sz k (a:Rat):=⟨by simpa using h,by simpa using Nat.one_lt_two_pow (by omega)⟩
theorem zaa (a:Int):(nz a,nz 1)=rq (some (a:Rat)):=by simp [rq,nO,dO]
theorem zH:cmpQ p q≤0↔p≤q:=by
 rcases zv p q with ⟨h,e⟩ | ⟨h,e⟩ | ⟨h,e⟩<;>rw [e]<;>constructor<;>intro h2<;>first | omega | grind
theorem zI:cmpQ p q<0↔p<q:=by
 rcases zv p q with ⟨h,e⟩ | ⟨h,e⟩ | ⟨h,e⟩<;>rw [e]<;>constructor<;>intro h2<;>first | omega | grind
theorem qA:cmpQ p q=0↔p=q:=⟨qc,fun h=>by rw [h];exact zG⟩
end
theorem zF (l:List Int) (n:Nat) (hn:n≤2):∃p:Rat,madeR (l.take n)=some p∧Sz 6 p∧-49≤p.floor∧p.floor≤49∧-49≤p.ceil∧p.ceil≤49:=by
 obtain ⟨x,y,e,hy,hy2,hx⟩:∃x y:Int,madeR (l.take n)=ofR x y∧1≤y∧y≤30∧x.natAbs≤49:=by
  unfold madeR
  rw [if_pos (by rw [List.length_take];omega)]
  refine ⟨_,_,rfl,?_,?_,?_⟩
  ·split
   ·have:=Int.emod_nonneg ((l.take n).getD 1 0) (show (30:Int)≠0 by decide);omega
   ·decide
  ·split
   ·have:=Int.emod_lt_of_pos ((l.take n).getD 1 0) (show (0:Int)<30 by decide);omega
   ·decide
  ·split
   ·have:=ze8 ((l.take n).getD 0 0);omega
   ·decide
 have hs:Sz 6 (Rat.divInt x y):=zg4 (by omega) (Nat.lt_of_le_of_lt hx (by decide)) (by (have e6:(2:Nat) ^ 6=64:=(by decide));omega)
 have hyq:(0:Rat)<(y:Rat):=by rw [Rat.intCast_pos];omega
 have hlo:((-49:Int):Rat)≤Rat.divInt x y:=by
  rw [← Rat.not_lt,Rat.divInt_eq_div,Rat.div_lt_iff hyq,← Rat.intCast_mul,Rat.intCast_lt_intCast];omega
 have hhi:Rat.divInt x y≤((49:Int):Rat):=by
  rw [← Rat.not_lt,Rat.divInt_eq_div,Rat.lt_div_iff hyq,← Rat.intCast_mul,Rat.intCast_lt_intCast];omega
 refine ⟨_,by rw [e];unfold ofR;rw [if_neg (by omega)],hs,Rat.le_floor_iff.2 hlo,?_,?_,Rat.ceil_le_iff.2 hhi⟩
 ·have:=Rat.floor_monotone hhi
  rwa [Rat.floor_intCast] at this
 ·have:=Rat.lt_ceil_iff (x:=Rat.divInt x y) (y:=-50)
  have h2:((-50:Int):Rat)<Rat.divInt x y:=by
   have:((-50:Int):Rat)<((-49:Int):Rat):=Rat.intCast_lt_intCast.2 (by decide)
   grind
  have:=this.2 h2
  omega
theorem ziU {w0:World} (l:(List Int)) (hM:∀W,Below w0.heap.size w0 W→MaxT W) (hTS:∀W,Below w0.heap.size w0 W→PowT w0.heap.size W∧SynT w0.heap.size W) (v1:Bool) (v2:Int) (v3:Int) (n4:Nat) (v6:(List Int)) (v8:RR) (v9:Int) (v10:Bool) (v11:Int) (v12:Bool) (v13:Bool) (v15:Bool) (v17:Bool) (v19:Bool) (v21:Bool) (v23:Bool) (v25:RR) (v28:Int) (v29:Bool) (v31:Int) (v32:RR) (v35:Int) (v36:Bool) (v38:Int) (v39:RR) (v42:Int) (v43:Bool) (v45:RR) (v48:Int) (v49:Bool) (v51:RR) (v54:RR) (v55:Bool) (v56:Int) (v57:Bool) (v61:Int) (v62:Bool) (v64:Bool) (v65:RR) (v68:Int) (v69:Bool) (v70:Bool) (e1:(true)=v1) (e2:((l.length:Int))=v2) (e3:((if (2:Int)<v2 then (2:Int) else v2))=v3) (e6:(l.take n4)=v6) (e8:(rq (madeR v6))=v8) (e9:(vO (flX v8.1 v8.2))=v9) (e10:(okO (flX v8.1 v8.2))=v10) (e11:(vO (ceX v8.1 v8.2))=v11) (e12:(okO (ceX v8.1 v8.2))=v12) (e13:(!v10)=v13) (e15:(!v12)=v15) (e17:(decide (v9<(-50:Int)))=v17) (e19:(decide (v9 > (50:Int)))=v19) (e21:(decide (v11<(-50:Int)))=v21) (e23:(decide (v11 > (50:Int)))=v23) (e25:((nz v9,nz 1))=v25) (e28:(cmpO (qq v25) (qq v8))=v28) (e29:(decide (v28 > (0:Int)))=v29) (e31:(IntKind.i64.wrap (v9+(1:Int)))=v31) (e32:((nz v31,nz 1))=v32) (e35:(cmpO (qq v8) (qq v32))=v35) (e36:(decide (v35 ≥ (0:Int)))=v36) (e38:(IntKind.i64.wrap (v11 - (1:Int)))=v38) (e39:((nz v38,nz 1))=v39) (e42:(cmpO (qq v39) (qq v8))=v42) (e43:(decide (v42 ≥ (0:Int)))=v43) (e45:((nz v11,nz 1))=v45) (e48:(cmpO (qq v8) (qq v45))=v48) (e49:(decide (v48 > (0:Int)))=v49) (e51:((nz (0:Int),nz 1))=v51) (e54:(rq (subR (qq v51) (qq v8)))=v54) (e55:((subR (qq v51) (qq v8)).isSome)=v55) (e56:(vO (flX v54.1 v54.2))=v56) (e57:(okO (flX v54.1 v54.2))=v57) (e61:(IntKind.i64.wrap (0 - v56))=v61) (e62:((v11 == v61))=v62) (e64:((v9 == v11))=v64) (e65:((nz v9,nz 1))=v65) (e68:(cmpO (qq v8) (qq v65))=v68) (e69:((v68 == (0:Int)))=v69) (e70:((v64 == v69))=v70) (s5:v3=(n4:Int)) (s7:n4≤l.length) (h14:v13=false) (h16:v15=false) (h18:v17=false) (h20:v19=false) (h22:v21=false) (h24:v23=false) (s26:-9223372036854775808≤v9) (s27:v9<9223372036854775808) (h30:v29=false) (s33:-9223372036854775808≤v31) (s34:v31<9223372036854775808) (h37:v36=false) (s40:-9223372036854775808≤v38) (s41:v38<9223372036854775808) (h44:v43=false) (s46:-9223372036854775808≤v11) (s47:v11<9223372036854775808) (h50:v49=false) (s52:-9223372036854775808≤(0:Int)) (s53:(0:Int)<9223372036854775808) (h58:v1=true) (h59:v55=true) (h60:v57=true) (h63:v62=true) (s66:-9223372036854775808≤v9) (s67:v9<9223372036854775808):Fun (KN w0) Tryz.prog 9 [.o (.c (pLs cI l))] (.o (.c (pB v70))):=
 zi (zl (F:=FL (pLs cI l::pB v1::pI v2::pI v3::pLs cI v6::pB v8.1.1::pD v8.1.2::pB v8.2.1::pD v8.2.2::pI v9::pB v10::pI v11::pB v12::pB v13::pB v15::pB v17::pB v19::pB v21::pB v23::pB v25.1.1::pD v25.1.2::pB v25.2.1::pD v25.2.2::pI v28::pB v29::pI v31::pB v32.1.1::pD v32.1.2::pB v32.2.1::pD v32.2.2::pI v35::pB v36::pI v38::pB v39.1.1::pD v39.1.2::pB v39.2.1::pD v39.2.2::pI v42::pB v43::pB v45.1.1::pD v45.1.2::pB v45.2.1::pD v45.2.2::pI v48::pB v49::pB v51.1.1::pD v51.1.2::pB v51.2.1::pD v51.2.2::pB v54.1.1::pD v54.1.2::pB v54.2.1::pD v54.2.2::pB v55::pI v56::pB v57::pI v61::pB v62::pB v64::pB v65.1.1::pD v65.1.2::pB v65.2.1::pD v65.2.2::pI v68::pB v69::pB v70::[]) []) (C:=((1000001,.call ⟨10,[],[],.o (.c (.h 1)),[]⟩) ::
  (1000005,.op (.len [22] 3) [LF (.h 0)] [] (LF (.h 2))) ::
  (1000006,.op (.min [3,3] 3) [LF (.h 2),LF (.k (.int .i64 2))] [] (LF (.h 3))) ::
  (1000007,.op (.sc 22 false true false) [LF (.h 0),LF (.h 3)] [] (LF (.h 4))) ::
  (1000008,.call ⟨12,[.o (.c (.h 4))],[],.o (.g [.h 5,.h 6,.h 7,.h 8]),[]⟩) ::
  (1000012,.call ⟨39,[.o (.g [.h 5,.h 6,.h 7,.h 8])],[],.t [.c (.h 9),.c (.h 10)],[]⟩) ::
  (1000019,.call ⟨41,[.o (.g [.h 5,.h 6,.h 7,.h 8])],[],.t [.c (.h 11),.c (.h 12)],[]⟩) ::
  (1000026,.un .not (LF (.h 10)) (LF (.h 13))) ::
  (10013,.fb 13 false) ::
  (1000029,.un .not (LF (.h 12)) (LF (.h 14))) ::
  (10014,.fb 14 false) ::
  (1000033,.bin .lss 3 (LF (.h 9)) (LF (.k (.int .i64 (-50)))) (LF (.h 15))) ::
  (10015,.fb 15 false) ::
  (1000037,.bin .gtr 3 (LF (.h 9)) (LF (.k (.int .i64 50))) (LF (.h 16))) ::
  (10016,.fb 16 false) ::
  (1000041,.bin .lss 3 (LF (.h 11)) (LF (.k (.int .i64 (-50)))) (LF (.h 17))) ::
  (10017,.fb 17 false) ::
  (1000045,.bin .gtr 3 (LF (.h 11)) (LF (.k (.int .i64 50))) (LF (.h 18))) ::
  (10018,.fb 18 false) ::
  (1000048,.call ⟨49,[.o (.c (.h 9))],[],.o (.g [.h 19,.h 20,.h 21,.h 22]),[]⟩) ::
  (1000050,.call ⟨22,[.o (.g [.h 19,.h 20,.h 21,.h 22]),.o (.g [.h 5,.h 6,.h 7,.h 8])],[],.o (.c (.h 23)),[]⟩) ::
  (1000051,.bin .gtr 3 (LF (.h 23)) (LF (.k (.int .i64 0))) (LF (.h 24))) ::
  (10024,.fb 24 false) ::
  (1000055,.bin .add 3 (LF (.h 9)) (LF (.k (.int .i64 1))) (LF (.h 25))) ::
  (1000056,.call ⟨49,[.o (.c (.h 25))],[],.o (.g [.h 26,.h 27,.h 28,.h 29]),[]⟩) ::
  (1000057,.call ⟨22,[.o (.g [.h 5,.h 6,.h 7,.h 8]),.o (.g [.h 26,.h 27,.h 28,.h 29])],[],.o (.c (.h 30)),[]⟩) ::
  (1000058,.bin .geq 3 (LF (.h 30)) (LF (.k (.int .i64 0))) (LF (.h 31))) ::
  (10031,.fb 31 false) ::
  (1000062,.bin .sub 3 (LF (.h 11)) (LF (.k (.int .i64 1))) (LF (.h 32))) ::
  (1000063,.call ⟨49,[.o (.c (.h 32))],[],.o (.g [.h 33,.h 34,.h 35,.h 36]),[]⟩) ::
  (1000065,.call ⟨22,[.o (.g [.h 33,.h 34,.h 35,.h 36]),.o (.g [.h 5,.h 6,.h 7,.h 8])],[],.o (.c (.h 37)),[]⟩) ::
  (1000066,.bin .geq 3 (LF (.h 37)) (LF (.k (.int .i64 0))) (LF (.h 38))) ::
  (10038,.fb 38 false) ::
  (1000071,.call ⟨49,[.o (.c (.h 11))],[],.o (.g [.h 39,.h 40,.h 41,.h 42]),[]⟩) ::
  (1000072,.call ⟨22,[.o (.g [.h 5,.h 6,.h 7,.h 8]),.o (.g [.h 39,.h 40,.h 41,.h 42])],[],.o (.c (.h 43)),[]⟩) ::
  (1000073,.bin .gtr 3 (LF (.h 43)) (LF (.k (.int .i64 0))) (LF (.h 44))) ::
  (10044,.fb 44 false) ::
  (1000075,.call ⟨49,[.o (.c (.k (.int .i64 0)))],[],.o (.g [.h 45,.h 46,.h 47,.h 48]),[]⟩) ::
  (1000077,.call ⟨15,[.o (.g [.h 45,.h 46,.h 47,.h 48]),.o (.g [.h 5,.h 6,.h 7,.h 8])],[],.t [.g [.h 49,.h 50,.h 51,.h 52],.c (.h 53)],[]⟩) ::
  (1000085,.call ⟨39,[.o (.g [.h 49,.h 50,.h 51,.h 52])],[],.t [.c (.h 54),.c (.h 55)],[]⟩) ::
  (10001,.fb 1 true) ::
  (10053,.fb 53 true) ::
  (10055,.fb 55 true) ::
  (1000101,.un .neg (LF (.h 54)) (LF (.h 56))) ::
  (1000102,.bin .eql 3 (LF (.h 11)) (LF (.h 56)) (LF (.h 57))) ::
  (10057,.fb 57 true) ::
  (1000107,.bin .eql 3 (LF (.h 9)) (LF (.h 11)) (LF (.h 58))) ::
  (1000110,.call ⟨49,[.o (.c (.h 9))],[],.o (.g [.h 59,.h 60,.h 61,.h 62]),[]⟩) ::
  (1000111,.call ⟨22,[.o (.g [.h 5,.h 6,.h 7,.h 8]),.o (.g [.h 59,.h 60,.h 61,.h 62])],[],.o (.c (.h 63)),[]⟩) ::
  (1000112,.bin .eql 3 (LF (.h 63)) (LF (.k (.int .i64 0))) (LF (.h 64))) ::
  (1000113,.bin .eql 4 (LF (.h 58)) (LF (.h 64)) (LF (.h 65)))::[]:List (Nat×Ent))) (k:=⟨9,[.o (.c (.h 0))],[],.o (.c (.h 65)),[]⟩) 0 (zm ⟨(zC zE),za rfl,za rfl,za rfl,(zC zE),za rfl,ze,za rfl,ze,za rfl,za rfl,za rfl,za rfl,za rfl,za rfl,za rfl,za rfl,za rfl,za rfl,za rfl,ze,za rfl,ze,za rfl,za rfl,za rfl,za rfl,ze,za rfl,ze,za rfl,za rfl,za rfl,za rfl,ze,za rfl,ze,za rfl,za rfl,za rfl,ze,za rfl,ze,za rfl,za rfl,za rfl,ze,za rfl,ze,za rfl,ze,za rfl,ze,za rfl,za rfl,za rfl,za rfl,za rfl,za rfl,za rfl,ze,za rfl,ze,za rfl,za rfl,za rfl,trivial⟩) ⟨zc (qE hM hTS  v1 e1) rfl rfl rfl rfl,
  zaP (E:=3) (by kernel_rfl) (zd rfl) (zb (by rw [← e2];rfl)),
  e_op2 (zb rfl) zg (zb rfl) (fun W=>by rw [← e3];exact zbd W),
  ztO (E:=3) (z:=1) (fun _=>rfl) (by kernel_rfl) (by kernel_rfl) (zd rfl) (zb rfl) s5 s7 (zd (by rw [e6];rfl)),
  zc (qL v6 v8 e8) rfl rfl rfl rfl,
  zc (za6 v8 v9 v10 e9 e10) rfl rfl rfl rfl,
  zc (zb0 v8 v11 v12 e11 e12) rfl rfl rfl rfl,
  e_un (zb rfl) (zb rfl) (fun W=>by rw [← e13];exact r_not W),
  e_fb (show pV (.bool v13)=_ by rw [h14]),
  e_un (zb rfl) (zb rfl) (fun W=>by rw [← e15];exact r_not W),
  e_fb (show pV (.bool v15)=_ by rw [h16]),
  e_bin (zb rfl) zg (zb rfl) (r_cmp (congrArg some e17)),
  e_fb (show pV (.bool v17)=_ by rw [h18]),
  e_bin (zb rfl) zg (zb rfl) (r_cmp (congrArg some e19)),
  e_fb (show pV (.bool v19)=_ by rw [h20]),
  e_bin (zb rfl) zg (zb rfl) (r_cmp (congrArg some e21)),
  e_fb (show pV (.bool v21)=_ by rw [h22]),
  e_bin (zb rfl) zg (zb rfl) (r_cmp (congrArg some e23)),
  e_fb (show pV (.bool v23)=_ by rw [h24]),
  zc (zfF v9 v25 e25 s26 s27) rfl rfl rfl rfl,
  zc (zS v25 v8 v28 e28) rfl rfl rfl rfl,
  e_bin (zb rfl) zg (zb rfl) (r_cmp (congrArg some e29)),
  e_fb (show pV (.bool v29)=_ by rw [h30]),
  e_bin (zb rfl) zg (zb rfl) (r_ar (congrArg some e31)),
  zc (zfF v31 v32 e32 s33 s34) rfl rfl rfl rfl,
  zc (zS v8 v32 v35 e35) rfl rfl rfl rfl,
  e_bin (zb rfl) zg (zb rfl) (r_cmp (congrArg some e36)),
  e_fb (show pV (.bool v36)=_ by rw [h37]),
  e_bin (zb rfl) zg (zb rfl) (r_ar (congrArg some e38)),
  zc (zfF v38 v39 e39 s40 s41) rfl rfl rfl rfl,
  zc (zS v39 v8 v42 e42) rfl rfl rfl rfl,
  e_bin (zb rfl) zg (zb rfl) (r_cmp (congrArg some e43)),
  e_fb (show pV (.bool v43)=_ by rw [h44]),
  zc (zfF v11 v45 e45 s46 s47) rfl rfl rfl rfl,
  zc (zS v8 v45 v48 e48) rfl rfl rfl rfl,
  e_bin (zb rfl) zg (zb rfl) (r_cmp (congrArg some e49)),
  e_fb (show pV (.bool v49)=_ by rw [h50]),
  zc (zfF (0:Int) v51 e51 s52 s53) rfl rfl rfl rfl,
  zc (zcN v51 v8 v54 v55 e54 e55) rfl rfl rfl rfl,
  zc (za6 v54 v56 v57 e56 e57) rfl rfl rfl rfl,
  e_fb (show pV (.bool v1)=_ by rw [h58]),
  e_fb (show pV (.bool v55)=_ by rw [h59]),
  e_fb (show pV (.bool v57)=_ by rw [h60]),
  e_un (zb rfl) (zb rfl) (fun W=>by rw [← e61];exact r_neg W),
  e_bin (zb rfl) (zb rfl) (zb rfl) (r_cmp (congrArg some e62)),
  e_fb (show pV (.bool v62)=_ by rw [h63]),
  e_bin (zb rfl) (zb rfl) (zb rfl) (r_cmp (congrArg some e64)),
  zc (zfF v9 v65 e65 s66 s67) rfl rfl rfl rfl,
  zc (zS v8 v65 v68 e68) rfl rfl rfl rfl,
  e_bin (zb rfl) zg (zb rfl) (r_cmp (congrArg some e69)),
  e_bin (zb rfl) (zb rfl) (zb rfl) (fun W X Y=>by rw [← e70];exact r_beq (by kernel_rfl) W X Y),
  trivial⟩ mixed (by kernel_rfl)) rfl rfl rfl rfl
theorem ziM (l:(List Int))  :((if (2:Int)<((l.length:Int)) then (2:Int) else ((l.length:Int))))=(((if (2:Int)<(l.length:Int) then (2:Int) else (l.length:Int)).toNat):Int):=by (split<;>omega)
theorem ziN (l:(List Int))  :((if (2:Int)<(l.length:Int) then (2:Int) else (l.length:Int)).toNat)≤l.length:=by (have:(if (2:Int)<(l.length:Int) then (2:Int) else (l.length:Int))≤l.length:=(by split<;>omega);omega)
theorem ziO (l:(List Int))  :((!(okO (flX (rq (madeR (l.take ((if (2:Int)<(l.length:Int) then (2:Int) else (l.length:Int)).toNat)))).1 (rq (madeR (l.take ((if (2:Int)<(l.length:Int) then (2:Int) else (l.length:Int)).toNat)))).2))))=false:=by
 obtain ⟨p,ep,hp,f1,f2,c1,c2⟩:=zF l ((if (2:Int)<(l.length:Int) then (2:Int) else (l.length:Int)).toNat) (by split<;>omega)
 have k1:=qq_sz hp (by decide)
 have k2:=fl_sz hp (by decide)
 have k3:=ce_sz hp (by decide)
 have z7:∀a:Int,-60≤a→a≤60→qq (rq (some (a:Rat)))=some (a:Rat):=fun a h1 h2=>qq_sz (zU (k:=7) (by (have e7:(2:Nat) ^ 7=128:=(by decide));omega) (by decide)) (by decide)
 have k4:=z7 p.floor (by omega) (by omega)
 have k5:=z7 (p.floor+1) (by omega) (by omega)
 have k6:=z7 (p.ceil - 1) (by omega) (by omega)
 have k7:=z7 p.ceil (by omega) (by omega)
 have k8:=z7 0 (by omega) (by omega)
 have z0:Sz 7 (((0:Int):Rat)):=zU (by decide) (by decide)
 have hm:=z0.sub hp
 have a1:=zK z0 hp (by decide)
 have a2:=fl_sz hm (by decide)
 have e1:(((0:Int):Rat) - p).floor=-p.ceil:=by
  rw [Rat.ceil_eq_neg_floor_neg,show ((0:Int):Rat) - p=-p by grind,Int.neg_neg]
 have w1:=wr64 (n:=p.floor+1) (by omega)
 have w2:=wr64 (n:=p.ceil - 1) (by omega)
 have w3:=wr64 (n:=0 - -p.ceil) (by omega)
 have c0:∀a b:Rat,cmpO (some a) (some b)=cmpQ a b:=fun _ _=>rfl
 have vo:∀a:Int,vO (some a)=a:=fun _=>rfl
 have oo:∀a:Int,okO (some a)=true:=fun _=>rfl
 have q1:cmpQ (p.floor:Rat) p≤0:=zH.2 (Rat.floor_le p)
 have q2:cmpQ p ((p.floor+1:Int):Rat)<0:=zI.2 (Rat.lt_floor_add_one p)
 have q3:cmpQ ((p.ceil - 1:Int):Rat) p<0:=zI.2 (Rat.lt_ceil_iff.1 (by omega))
 have q4:cmpQ p (p.ceil:Rat)≤0:=zH.2 Rat.le_ceil
 have q5:cmpQ p (p.floor:Rat)=0↔p.floor=p.ceil:=by
  rw [qA]
  constructor
  ·intro h
   rw [h,Rat.floor_intCast,Rat.ceil_intCast]
  ·intro h
   have h1:=Rat.floor_le p
   have h2:=Rat.le_ceil (x:=p)
   rw [← h] at h2
   grind
 try simp only [ep,zaa,k1,k2,k3,k4,k5,k6,k7,k8,a1,a2,e1,w1,w2,w3,c0,vo,oo,Option.isSome_some,Bool.not_true,decide_eq_true_eq,decide_eq_false_iff_not]
 try first | omega | (have q6:(cmpQ p (p.floor:Rat) == 0)=(p.floor == p.ceil):=(by rw [Bool.eq_iff_iff,beq_iff_eq,beq_iff_eq];exact q5);rw [q6];exact beq_self_eq_true _) | (have w4:p.ceil=0 - -p.ceil:=(by omega);rw [← w4];exact beq_self_eq_true _) | (rw [beq_iff_eq];by_cases h:p.floor=p.ceil<;>simp [h,q5]) | (simp;omega)
theorem ziP (l:(List Int))  :((!(okO (ceX (rq (madeR (l.take ((if (2:Int)<(l.length:Int) then (2:Int) else (l.length:Int)).toNat)))).1 (rq (madeR (l.take ((if (2:Int)<(l.length:Int) then (2:Int) else (l.length:Int)).toNat)))).2))))=false:=by
 obtain ⟨p,ep,hp,f1,f2,c1,c2⟩:=zF l ((if (2:Int)<(l.length:Int) then (2:Int) else (l.length:Int)).toNat) (by split<;>omega)
 have k1:=qq_sz hp (by decide)
 have k2:=fl_sz hp (by decide)
 have k3:=ce_sz hp (by decide)
 have z7:∀a:Int,-60≤a→a≤60→qq (rq (some (a:Rat)))=some (a:Rat):=fun a h1 h2=>qq_sz (zU (k:=7) (by (have e7:(2:Nat) ^ 7=128:=(by decide));omega) (by decide)) (by decide)
 have k4:=z7 p.floor (by omega) (by omega)
 have k5:=z7 (p.floor+1) (by omega) (by omega)
 have k6:=z7 (p.ceil - 1) (by omega) (by omega)
 have k7:=z7 p.ceil (by omega) (by omega)
 have k8:=z7 0 (by omega) (by omega)
 have z0:Sz 7 (((0:Int):Rat)):=zU (by decide) (by decide)
 have hm:=z0.sub hp
 have a1:=zK z0 hp (by decide)
 have a2:=fl_sz hm (by decide)
 have e1:(((0:Int):Rat) - p).floor=-p.ceil:=by
  rw [Rat.ceil_eq_neg_floor_neg,show ((0:Int):Rat) - p=-p by grind,Int.neg_neg]
 have w1:=wr64 (n:=p.floor+1) (by omega)
 have w2:=wr64 (n:=p.ceil - 1) (by omega)
 have w3:=wr64 (n:=0 - -p.ceil) (by omega)
 have c0:∀a b:Rat,cmpO (some a) (some b)=cmpQ a b:=fun _ _=>rfl
 have vo:∀a:Int,vO (some a)=a:=fun _=>rfl
 have oo:∀a:Int,okO (some a)=true:=fun _=>rfl
 have q1:cmpQ (p.floor:Rat) p≤0:=zH.2 (Rat.floor_le p)
 have q2:cmpQ p ((p.floor+1:Int):Rat)<0:=zI.2 (Rat.lt_floor_add_one p)
 have q3:cmpQ ((p.ceil - 1:Int):Rat) p<0:=zI.2 (Rat.lt_ceil_iff.1 (by omega))
 have q4:cmpQ p (p.ceil:Rat)≤0:=zH.2 Rat.le_ceil
 have q5:cmpQ p (p.floor:Rat)=0↔p.floor=p.ceil:=by
  rw [qA]
  constructor
  ·intro h
   rw [h,Rat.floor_intCast,Rat.ceil_intCast]
  ·intro h
   have h1:=Rat.floor_le p
   have h2:=Rat.le_ceil (x:=p)
   rw [← h] at h2
   grind
 try simp only [ep,zaa,k1,k2,k3,k4,k5,k6,k7,k8,a1,a2,e1,w1,w2,w3,c0,vo,oo,Option.isSome_some,Bool.not_true,decide_eq_true_eq,decide_eq_false_iff_not]
 try first | omega | (have q6:(cmpQ p (p.floor:Rat) == 0)=(p.floor == p.ceil):=(by rw [Bool.eq_iff_iff,beq_iff_eq,beq_iff_eq];exact q5);rw [q6];exact beq_self_eq_true _) | (have w4:p.ceil=0 - -p.ceil:=(by omega);rw [← w4];exact beq_self_eq_true _) | (rw [beq_iff_eq];by_cases h:p.floor=p.ceil<;>simp [h,q5]) | (simp;omega)
theorem ziQ (l:(List Int))  :((decide ((vO (flX (rq (madeR (l.take ((if (2:Int)<(l.length:Int) then (2:Int) else (l.length:Int)).toNat)))).1 (rq (madeR (l.take ((if (2:Int)<(l.length:Int) then (2:Int) else (l.length:Int)).toNat)))).2))<(-50:Int))))=false:=by
 obtain ⟨p,ep,hp,f1,f2,c1,c2⟩:=zF l ((if (2:Int)<(l.length:Int) then (2:Int) else (l.length:Int)).toNat) (by split<;>omega)
 have k1:=qq_sz hp (by decide)
 have k2:=fl_sz hp (by decide)
 have k3:=ce_sz hp (by decide)
 have z7:∀a:Int,-60≤a→a≤60→qq (rq (some (a:Rat)))=some (a:Rat):=fun a h1 h2=>qq_sz (zU (k:=7) (by (have e7:(2:Nat) ^ 7=128:=(by decide));omega) (by decide)) (by decide)
 have k4:=z7 p.floor (by omega) (by omega)
 have k5:=z7 (p.floor+1) (by omega) (by omega)
 have k6:=z7 (p.ceil - 1) (by omega) (by omega)
 have k7:=z7 p.ceil (by omega) (by omega)
 have k8:=z7 0 (by omega) (by omega)
 have z0:Sz 7 (((0:Int):Rat)):=zU (by decide) (by decide)
 have hm:=z0.sub hp
 have a1:=zK z0 hp (by decide)
 have a2:=fl_sz hm (by decide)
 have e1:(((0:Int):Rat) - p).floor=-p.ceil:=by
  rw [Rat.ceil_eq_neg_floor_neg,show ((0:Int):Rat) - p=-p by grind,Int.neg_neg]
 have w1:=wr64 (n:=p.floor+1) (by omega)
 have w2:=wr64 (n:=p.ceil - 1) (by omega)
 have w3:=wr64 (n:=0 - -p.ceil) (by omega)
 have c0:∀a b:Rat,cmpO (some a) (some b)=cmpQ a b:=fun _ _=>rfl
 have vo:∀a:Int,vO (some a)=a:=fun _=>rfl
 have oo:∀a:Int,okO (some a)=true:=fun _=>rfl
 have q1:cmpQ (p.floor:Rat) p≤0:=zH.2 (Rat.floor_le p)
 have q2:cmpQ p ((p.floor+1:Int):Rat)<0:=zI.2 (Rat.lt_floor_add_one p)
 have q3:cmpQ ((p.ceil - 1:Int):Rat) p<0:=zI.2 (Rat.lt_ceil_iff.1 (by omega))
 have q4:cmpQ p (p.ceil:Rat)≤0:=zH.2 Rat.le_ceil
 have q5:cmpQ p (p.floor:Rat)=0↔p.floor=p.ceil:=by
  rw [qA]
  constructor
  ·intro h
   rw [h,Rat.floor_intCast,Rat.ceil_intCast]
  ·intro h
   have h1:=Rat.floor_le p
   have h2:=Rat.le_ceil (x:=p)
   rw [← h] at h2
   grind
 try simp only [ep,zaa,k1,k2,k3,k4,k5,k6,k7,k8,a1,a2,e1,w1,w2,w3,c0,vo,oo,Option.isSome_some,Bool.not_true,decide_eq_true_eq,decide_eq_false_iff_not]
 try first | omega | (have q6:(cmpQ p (p.floor:Rat) == 0)=(p.floor == p.ceil):=(by rw [Bool.eq_iff_iff,beq_iff_eq,beq_iff_eq];exact q5);rw [q6];exact beq_self_eq_true _) | (have w4:p.ceil=0 - -p.ceil:=(by omega);rw [← w4];exact beq_self_eq_true _) | (rw [beq_iff_eq];by_cases h:p.floor=p.ceil<;>simp [h,q5]) | (simp;omega)
theorem ziR (l:(List Int))  :((decide ((vO (flX (rq (madeR (l.take ((if (2:Int)<(l.length:Int) then (2:Int) else (l.length:Int)).toNat)))).1 (rq (madeR (l.take ((if (2:Int)<(l.length:Int) then (2:Int) else (l.length:Int)).toNat)))).2)) > (50:Int))))=false:=by
 obtain ⟨p,ep,hp,f1,f2,c1,c2⟩:=zF l ((if (2:Int)<(l.length:Int) then (2:Int) else (l.length:Int)).toNat) (by split<;>omega)
 have k1:=qq_sz hp (by decide)
 have k2:=fl_sz hp (by decide)
 have k3:=ce_sz hp (by decide)
 have z7:∀a:Int,-60≤a→a≤60→qq (rq (some (a:Rat)))=some (a:Rat):=fun a h1 h2=>qq_sz (zU (k:=7) (by (have e7:(2:Nat) ^ 7=128:=(by decide));omega) (by decide)) (by decide)
 have k4:=z7 p.floor (by omega) (by omega)
 have k5:=z7 (p.floor+1) (by omega) (by omega)
 have k6:=z7 (p.ceil - 1) (by omega) (by omega)
 have k7:=z7 p.ceil (by omega) (by omega)
 have k8:=z7 0 (by omega) (by omega)
 have z0:Sz 7 (((0:Int):Rat)):=zU (by decide) (by decide)
 have hm:=z0.sub hp
 have a1:=zK z0 hp (by decide)
 have a2:=fl_sz hm (by decide)
 have e1:(((0:Int):Rat) - p).floor=-p.ceil:=by
  rw [Rat.ceil_eq_neg_floor_neg,show ((0:Int):Rat) - p=-p by grind,Int.neg_neg]
 have w1:=wr64 (n:=p.floor+1) (by omega)
 have w2:=wr64 (n:=p.ceil - 1) (by omega)
 have w3:=wr64 (n:=0 - -p.ceil) (by omega)
 have c0:∀a b:Rat,cmpO (some a) (some b)=cmpQ a b:=fun _ _=>rfl
 have vo:∀a:Int,vO (some a)=a:=fun _=>rfl
 have oo:∀a:Int,okO (some a)=true:=fun _=>rfl
 have q1:cmpQ (p.floor:Rat) p≤0:=zH.2 (Rat.floor_le p)
 have q2:cmpQ p ((p.floor+1:Int):Rat)<0:=zI.2 (Rat.lt_floor_add_one p)
 have q3:cmpQ ((p.ceil - 1:Int):Rat) p<0:=zI.2 (Rat.lt_ceil_iff.1 (by omega))
 have q4:cmpQ p (p.ceil:Rat)≤0:=zH.2 Rat.le_ceil
 have q5:cmpQ p (p.floor:Rat)=0↔p.floor=p.ceil:=by
  rw [qA]
  constructor
  ·intro h
   rw [h,Rat.floor_intCast,Rat.ceil_intCast]
  ·intro h
   have h1:=Rat.floor_le p
   have h2:=Rat.le_ceil (x:=p)
   rw [← h] at h2
   grind
 try simp only [ep,zaa,k1,k2,k3,k4,k5,k6,k7,k8,a1,a2,e1,w1,w2,w3,c0,vo,oo,Option.isSome_some,Bool.not_true,decide_eq_true_eq,decide_eq_false_iff_not]
 try first | omega | (have q6:(cmpQ p (p.floor:Rat) == 0)=(p.floor == p.ceil):=(by rw [Bool.eq_iff_iff,beq_iff_eq,beq_iff_eq];exact q5);rw [q6];exact beq_self_eq_true _) | (have w4:p.ceil=0 - -p.ceil:=(by omega);rw [← w4];exact beq_self_eq_true _) | (rw [beq_iff_eq];by_cases h:p.floor=p.ceil<;>simp [h,q5]) | (simp;omega)
theorem ziS (l:(List Int))  :((decide ((vO (ceX (rq (madeR (l.take ((if (2:Int)<(l.length:Int) then (2:Int) else (l.length:Int)).toNat)))).1 (rq (madeR (l.take ((if (2:Int)<(l.length:Int) then (2:Int) else (l.length:Int)).toNat)))).2))<(-50:Int))))=false:=by
 obtain ⟨p,ep,hp,f1,f2,c1,c2⟩:=zF l ((if (2:Int)<(l.length:Int) then (2:Int) else (l.length:Int)).toNat) (by split<;>omega)
 have k1:=qq_sz hp (by decide)
 have k2:=fl_sz hp (by decide)
 have k3:=ce_sz hp (by decide)
 have z7:∀a:Int,-60≤a→a≤60→qq (rq (some (a:Rat)))=some (a:Rat):=fun a h1 h2=>qq_sz (zU (k:=7) (by (have e7:(2:Nat) ^ 7=128:=(by decide));omega) (by decide)) (by decide)
 have k4:=z7 p.floor (by omega) (by omega)
 have k5:=z7 (p.floor+1) (by omega) (by omega)
 have k6:=z7 (p.ceil - 1) (by omega) (by omega)
 have k7:=z7 p.ceil (by omega) (by omega)
 have k8:=z7 0 (by omega) (by omega)
 have z0:Sz 7 (((0:Int):Rat)):=zU (by decide) (by decide)
 have hm:=z0.sub hp
 have a1:=zK z0 hp (by decide)
 have a2:=fl_sz hm (by decide)
 have e1:(((0:Int):Rat) - p).floor=-p.ceil:=by
  rw [Rat.ceil_eq_neg_floor_neg,show ((0:Int):Rat) - p=-p by grind,Int.neg_neg]
 have w1:=wr64 (n:=p.floor+1) (by omega)
 have w2:=wr64 (n:=p.ceil - 1) (by omega)
 have w3:=wr64 (n:=0 - -p.ceil) (by omega)
 have c0:∀a b:Rat,cmpO (some a) (some b)=cmpQ a b:=fun _ _=>rfl
 have vo:∀a:Int,vO (some a)=a:=fun _=>rfl
 have oo:∀a:Int,okO (some a)=true:=fun _=>rfl
 have q1:cmpQ (p.floor:Rat) p≤0:=zH.2 (Rat.floor_le p)
 have q2:cmpQ p ((p.floor+1:Int):Rat)<0:=zI.2 (Rat.lt_floor_add_one p)
 have q3:cmpQ ((p.ceil - 1:Int):Rat) p<0:=zI.2 (Rat.lt_ceil_iff.1 (by omega))
 have q4:cmpQ p (p.ceil:Rat)≤0:=zH.2 Rat.le_ceil
 have q5:cmpQ p (p.floor:Rat)=0↔p.floor=p.ceil:=by
  rw [qA]
  constructor
  ·intro h
   rw [h,Rat.floor_intCast,Rat.ceil_intCast]
  ·intro h
   have h1:=Rat.floor_le p
   have h2:=Rat.le_ceil (x:=p)
   rw [← h] at h2
   grind
 try simp only [ep,zaa,k1,k2,k3,k4,k5,k6,k7,k8,a1,a2,e1,w1,w2,w3,c0,vo,oo,Option.isSome_some,Bool.not_true,decide_eq_true_eq,decide_eq_false_iff_not]
 try first | omega | (have q6:(cmpQ p (p.floor:Rat) == 0)=(p.floor == p.ceil):=(by rw [Bool.eq_iff_iff,beq_iff_eq,beq_iff_eq];exact q5);rw [q6];exact beq_self_eq_true _) | (have w4:p.ceil=0 - -p.ceil:=(by omega);rw [← w4];exact beq_self_eq_true _) | (rw [beq_iff_eq];by_cases h:p.floor=p.ceil<;>simp [h,q5]) | (simp;omega)
theorem ziT (l:(List Int))  :((decide ((vO (ceX (rq (madeR (l.take ((if (2:Int)<(l.length:Int) then (2:Int) else (l.length:Int)).toNat)))).1 (rq (madeR (l.take ((if (2:Int)<(l.length:Int) then (2:Int) else (l.length:Int)).toNat)))).2)) > (50:Int))))=false:=by
 obtain ⟨p,ep,hp,f1,f2,c1,c2⟩:=zF l ((if (2:Int)<(l.length:Int) then (2:Int) else (l.length:Int)).toNat) (by split<;>omega)
 have k1:=qq_sz hp (by decide)
 have k2:=fl_sz hp (by decide)
 have k3:=ce_sz hp (by decide)
 have z7:∀a:Int,-60≤a→a≤60→qq (rq (some (a:Rat)))=some (a:Rat):=fun a h1 h2=>qq_sz (zU (k:=7) (by (have e7:(2:Nat) ^ 7=128:=(by decide));omega) (by decide)) (by decide)
 have k4:=z7 p.floor (by omega) (by omega)
 have k5:=z7 (p.floor+1) (by omega) (by omega)
 have k6:=z7 (p.ceil - 1) (by omega) (by omega)
 have k7:=z7 p.ceil (by omega) (by omega)
 have k8:=z7 0 (by omega) (by omega)
 have z0:Sz 7 (((0:Int):Rat)):=zU (by decide) (by decide)
 have hm:=z0.sub hp
 have a1:=zK z0 hp (by decide)
 have a2:=fl_sz hm (by decide)
 have e1:(((0:Int):Rat) - p).floor=-p.ceil:=by
  rw [Rat.ceil_eq_neg_floor_neg,show ((0:Int):Rat) - p=-p by grind,Int.neg_neg]
 have w1:=wr64 (n:=p.floor+1) (by omega)
 have w2:=wr64 (n:=p.ceil - 1) (by omega)
 have w3:=wr64 (n:=0 - -p.ceil) (by omega)
 have c0:∀a b:Rat,cmpO (some a) (some b)=cmpQ a b:=fun _ _=>rfl
 have vo:∀a:Int,vO (some a)=a:=fun _=>rfl
 have oo:∀a:Int,okO (some a)=true:=fun _=>rfl
 have q1:cmpQ (p.floor:Rat) p≤0:=zH.2 (Rat.floor_le p)
 have q2:cmpQ p ((p.floor+1:Int):Rat)<0:=zI.2 (Rat.lt_floor_add_one p)
 have q3:cmpQ ((p.ceil - 1:Int):Rat) p<0:=zI.2 (Rat.lt_ceil_iff.1 (by omega))
 have q4:cmpQ p (p.ceil:Rat)≤0:=zH.2 Rat.le_ceil
 have q5:cmpQ p (p.floor:Rat)=0↔p.floor=p.ceil:=by
  rw [qA]
  constructor
  ·intro h
   rw [h,Rat.floor_intCast,Rat.ceil_intCast]
  ·intro h
   have h1:=Rat.floor_le p
   have h2:=Rat.le_ceil (x:=p)
   rw [← h] at h2
   grind
 try simp only [ep,zaa,k1,k2,k3,k4,k5,k6,k7,k8,a1,a2,e1,w1,w2,w3,c0,vo,oo,Option.isSome_some,Bool.not_true,decide_eq_true_eq,decide_eq_false_iff_not]
 try first | omega | (have q6:(cmpQ p (p.floor:Rat) == 0)=(p.floor == p.ceil):=(by rw [Bool.eq_iff_iff,beq_iff_eq,beq_iff_eq];exact q5);rw [q6];exact beq_self_eq_true _) | (have w4:p.ceil=0 - -p.ceil:=(by omega);rw [← w4];exact beq_self_eq_true _) | (rw [beq_iff_eq];by_cases h:p.floor=p.ceil<;>simp [h,q5]) | (simp;omega)
theorem zdU (l:(List Int))  :-9223372036854775808≤(vO (flX (rq (madeR (l.take ((if (2:Int)<(l.length:Int) then (2:Int) else (l.length:Int)).toNat)))).1 (rq (madeR (l.take ((if (2:Int)<(l.length:Int) then (2:Int) else (l.length:Int)).toNat)))).2)):=by
 obtain ⟨p,ep,hp,f1,f2,c1,c2⟩:=zF l ((if (2:Int)<(l.length:Int) then (2:Int) else (l.length:Int)).toNat) (by split<;>omega)
 have k1:=qq_sz hp (by decide)
 have k2:=fl_sz hp (by decide)
 have k3:=ce_sz hp (by decide)
 have z7:∀a:Int,-60≤a→a≤60→qq (rq (some (a:Rat)))=some (a:Rat):=fun a h1 h2=>qq_sz (zU (k:=7) (by (have e7:(2:Nat) ^ 7=128:=(by decide));omega) (by decide)) (by decide)
 have k4:=z7 p.floor (by omega) (by omega)
 have k5:=z7 (p.floor+1) (by omega) (by omega)
 have k6:=z7 (p.ceil - 1) (by omega) (by omega)
 have k7:=z7 p.ceil (by omega) (by omega)
 have k8:=z7 0 (by omega) (by omega)
 have z0:Sz 7 (((0:Int):Rat)):=zU (by decide) (by decide)
 have hm:=z0.sub hp
 have a1:=zK z0 hp (by decide)
 have a2:=fl_sz hm (by decide)
 have e1:(((0:Int):Rat) - p).floor=-p.ceil:=by
  rw [Rat.ceil_eq_neg_floor_neg,show ((0:Int):Rat) - p=-p by grind,Int.neg_neg]
 have w1:=wr64 (n:=p.floor+1) (by omega)
 have w2:=wr64 (n:=p.ceil - 1) (by omega)
 have w3:=wr64 (n:=0 - -p.ceil) (by omega)
 have c0:∀a b:Rat,cmpO (some a) (some b)=cmpQ a b:=fun _ _=>rfl
 have vo:∀a:Int,vO (some a)=a:=fun _=>rfl
 have oo:∀a:Int,okO (some a)=true:=fun _=>rfl
 have q1:cmpQ (p.floor:Rat) p≤0:=zH.2 (Rat.floor_le p)
 have q2:cmpQ p ((p.floor+1:Int):Rat)<0:=zI.2 (Rat.lt_floor_add_one p)
 have q3:cmpQ ((p.ceil - 1:Int):Rat) p<0:=zI.2 (Rat.lt_ceil_iff.1 (by omega))
 have q4:cmpQ p (p.ceil:Rat)≤0:=zH.2 Rat.le_ceil
 have q5:cmpQ p (p.floor:Rat)=0↔p.floor=p.ceil:=by
  rw [qA]
  constructor
  ·intro h
   rw [h,Rat.floor_intCast,Rat.ceil_intCast]
  ·intro h
   have h1:=Rat.floor_le p
   have h2:=Rat.le_ceil (x:=p)
   rw [← h] at h2
   grind
 try simp only [ep,zaa,k1,k2,k3,k4,k5,k6,k7,k8,a1,a2,e1,w1,w2,w3,c0,vo,oo,Option.isSome_some,Bool.not_true,decide_eq_true_eq,decide_eq_false_iff_not]
 try first | omega | (have q6:(cmpQ p (p.floor:Rat) == 0)=(p.floor == p.ceil):=(by rw [Bool.eq_iff_iff,beq_iff_eq,beq_iff_eq];exact q5);rw [q6];exact beq_self_eq_true _) | (have w4:p.ceil=0 - -p.ceil:=(by omega);rw [← w4];exact beq_self_eq_true _) | (rw [beq_iff_eq];by_cases h:p.floor=p.ceil<;>simp [h,q5]) | (simp;omega)
theorem zdV (l:(List Int))  :(vO (flX (rq (madeR (l.take ((if (2:Int)<(l.length:Int) then (2:Int) else (l.length:Int)).toNat)))).1 (rq (madeR (l.take ((if (2:Int)<(l.length:Int) then (2:Int) else (l.length:Int)).toNat)))).2))<9223372036854775808:=by
 obtain ⟨p,ep,hp,f1,f2,c1,c2⟩:=zF l ((if (2:Int)<(l.length:Int) then (2:Int) else (l.length:Int)).toNat) (by split<;>omega)
 have k1:=qq_sz hp (by decide)
 have k2:=fl_sz hp (by decide)
 have k3:=ce_sz hp (by decide)
 have z7:∀a:Int,-60≤a→a≤60→qq (rq (some (a:Rat)))=some (a:Rat):=fun a h1 h2=>qq_sz (zU (k:=7) (by (have e7:(2:Nat) ^ 7=128:=(by decide));omega) (by decide)) (by decide)
 have k4:=z7 p.floor (by omega) (by omega)
 have k5:=z7 (p.floor+1) (by omega) (by omega)
 have k6:=z7 (p.ceil - 1) (by omega) (by omega)
 have k7:=z7 p.ceil (by omega) (by omega)
 have k8:=z7 0 (by omega) (by omega)
 have z0:Sz 7 (((0:Int):Rat)):=zU (by decide) (by decide)
 have hm:=z0.sub hp
 have a1:=zK z0 hp (by decide)
 have a2:=fl_sz hm (by decide)
 have e1:(((0:Int):Rat) - p).floor=-p.ceil:=by
  rw [Rat.ceil_eq_neg_floor_neg,show ((0:Int):Rat) - p=-p by grind,Int.neg_neg]
 have w1:=wr64 (n:=p.floor+1) (by omega)
 have w2:=wr64 (n:=p.ceil - 1) (by omega)
 have w3:=wr64 (n:=0 - -p.ceil) (by omega)
 have c0:∀a b:Rat,cmpO (some a) (some b)=cmpQ a b:=fun _ _=>rfl
 have vo:∀a:Int,vO (some a)=a:=fun _=>rfl
 have oo:∀a:Int,okO (some a)=true:=fun _=>rfl
 have q1:cmpQ (p.floor:Rat) p≤0:=zH.2 (Rat.floor_le p)
 have q2:cmpQ p ((p.floor+1:Int):Rat)<0:=zI.2 (Rat.lt_floor_add_one p)
 have q3:cmpQ ((p.ceil - 1:Int):Rat) p<0:=zI.2 (Rat.lt_ceil_iff.1 (by omega))
 have q4:cmpQ p (p.ceil:Rat)≤0:=zH.2 Rat.le_ceil
 have q5:cmpQ p (p.floor:Rat)=0↔p.floor=p.ceil:=by
  rw [qA]
  constructor
  ·intro h
   rw [h,Rat.floor_intCast,Rat.ceil_intCast]
  ·intro h
   have h1:=Rat.floor_le p
   have h2:=Rat.le_ceil (x:=p)
   rw [← h] at h2
   grind
 try simp only [ep,zaa,k1,k2,k3,k4,k5,k6,k7,k8,a1,a2,e1,w1,w2,w3,c0,vo,oo,Option.isSome_some,Bool.not_true,decide_eq_true_eq,decide_eq_false_iff_not]
 try first | omega | (have q6:(cmpQ p (p.floor:Rat) == 0)=(p.floor == p.ceil):=(by rw [Bool.eq_iff_iff,beq_iff_eq,beq_iff_eq];exact q5);rw [q6];exact beq_self_eq_true _) | (have w4:p.ceil=0 - -p.ceil:=(by omega);rw [← w4];exact beq_self_eq_true _) | (rw [beq_iff_eq];by_cases h:p.floor=p.ceil<;>simp [h,q5]) | (simp;omega)
theorem zgD (l:(List Int))  :((decide ((cmpO (qq ((nz (vO (flX (rq (madeR (l.take ((if (2:Int)<(l.length:Int) then (2:Int) else (l.length:Int)).toNat)))).1 (rq (madeR (l.take ((if (2:Int)<(l.length:Int) then (2:Int) else (l.length:Int)).toNat)))).2)),nz 1))) (qq (rq (madeR (l.take ((if (2:Int)<(l.length:Int) then (2:Int) else (l.length:Int)).toNat)))))) > (0:Int))))=false:=by
 obtain ⟨p,ep,hp,f1,f2,c1,c2⟩:=zF l ((if (2:Int)<(l.length:Int) then (2:Int) else (l.length:Int)).toNat) (by split<;>omega)
 have k1:=qq_sz hp (by decide)
 have k2:=fl_sz hp (by decide)
 have k3:=ce_sz hp (by decide)
 have z7:∀a:Int,-60≤a→a≤60→qq (rq (some (a:Rat)))=some (a:Rat):=fun a h1 h2=>qq_sz (zU (k:=7) (by (have e7:(2:Nat) ^ 7=128:=(by decide));omega) (by decide)) (by decide)
 have k4:=z7 p.floor (by omega) (by omega)
 have k5:=z7 (p.floor+1) (by omega) (by omega)
 have k6:=z7 (p.ceil - 1) (by omega) (by omega)
 have k7:=z7 p.ceil (by omega) (by omega)
 have k8:=z7 0 (by omega) (by omega)
 have z0:Sz 7 (((0:Int):Rat)):=zU (by decide) (by decide)
 have hm:=z0.sub hp
 have a1:=zK z0 hp (by decide)
 have a2:=fl_sz hm (by decide)
 have e1:(((0:Int):Rat) - p).floor=-p.ceil:=by
  rw [Rat.ceil_eq_neg_floor_neg,show ((0:Int):Rat) - p=-p by grind,Int.neg_neg]
 have w1:=wr64 (n:=p.floor+1) (by omega)
 have w2:=wr64 (n:=p.ceil - 1) (by omega)
 have w3:=wr64 (n:=0 - -p.ceil) (by omega)
 have c0:∀a b:Rat,cmpO (some a) (some b)=cmpQ a b:=fun _ _=>rfl
 have vo:∀a:Int,vO (some a)=a:=fun _=>rfl
 have oo:∀a:Int,okO (some a)=true:=fun _=>rfl
 have q1:cmpQ (p.floor:Rat) p≤0:=zH.2 (Rat.floor_le p)
 have q2:cmpQ p ((p.floor+1:Int):Rat)<0:=zI.2 (Rat.lt_floor_add_one p)
 have q3:cmpQ ((p.ceil - 1:Int):Rat) p<0:=zI.2 (Rat.lt_ceil_iff.1 (by omega))
 have q4:cmpQ p (p.ceil:Rat)≤0:=zH.2 Rat.le_ceil
 have q5:cmpQ p (p.floor:Rat)=0↔p.floor=p.ceil:=by
  rw [qA]
  constructor
  ·intro h
   rw [h,Rat.floor_intCast,Rat.ceil_intCast]
  ·intro h
   have h1:=Rat.floor_le p
   have h2:=Rat.le_ceil (x:=p)
   rw [← h] at h2
   grind
 try simp only [ep,zaa,k1,k2,k3,k4,k5,k6,k7,k8,a1,a2,e1,w1,w2,w3,c0,vo,oo,Option.isSome_some,Bool.not_true,decide_eq_true_eq,decide_eq_false_iff_not]
 try first | omega | (have q6:(cmpQ p (p.floor:Rat) == 0)=(p.floor == p.ceil):=(by rw [Bool.eq_iff_iff,beq_iff_eq,beq_iff_eq];exact q5);rw [q6];exact beq_self_eq_true _) | (have w4:p.ceil=0 - -p.ceil:=(by omega);rw [← w4];exact beq_self_eq_true _) | (rw [beq_iff_eq];by_cases h:p.floor=p.ceil<;>simp [h,q5]) | (simp;omega)
theorem zgE (l:(List Int))  :-9223372036854775808≤(IntKind.i64.wrap ((vO (flX (rq (madeR (l.take ((if (2:Int)<(l.length:Int) then (2:Int) else (l.length:Int)).toNat)))).1 (rq (madeR (l.take ((if (2:Int)<(l.length:Int) then (2:Int) else (l.length:Int)).toNat)))).2))+(1:Int))):=by
 obtain ⟨p,ep,hp,f1,f2,c1,c2⟩:=zF l ((if (2:Int)<(l.length:Int) then (2:Int) else (l.length:Int)).toNat) (by split<;>omega)
 have k1:=qq_sz hp (by decide)
 have k2:=fl_sz hp (by decide)
 have k3:=ce_sz hp (by decide)
 have z7:∀a:Int,-60≤a→a≤60→qq (rq (some (a:Rat)))=some (a:Rat):=fun a h1 h2=>qq_sz (zU (k:=7) (by (have e7:(2:Nat) ^ 7=128:=(by decide));omega) (by decide)) (by decide)
 have k4:=z7 p.floor (by omega) (by omega)
 have k5:=z7 (p.floor+1) (by omega) (by omega)
 have k6:=z7 (p.ceil - 1) (by omega) (by omega)
 have k7:=z7 p.ceil (by omega) (by omega)
 have k8:=z7 0 (by omega) (by omega)
 have z0:Sz 7 (((0:Int):Rat)):=zU (by decide) (by decide)
 have hm:=z0.sub hp
 have a1:=zK z0 hp (by decide)
 have a2:=fl_sz hm (by decide)
 have e1:(((0:Int):Rat) - p).floor=-p.ceil:=by
  rw [Rat.ceil_eq_neg_floor_neg,show ((0:Int):Rat) - p=-p by grind,Int.neg_neg]
 have w1:=wr64 (n:=p.floor+1) (by omega)
 have w2:=wr64 (n:=p.ceil - 1) (by omega)
 have w3:=wr64 (n:=0 - -p.ceil) (by omega)
 have c0:∀a b:Rat,cmpO (some a) (some b)=cmpQ a b:=fun _ _=>rfl
 have vo:∀a:Int,vO (some a)=a:=fun _=>rfl
 have oo:∀a:Int,okO (some a)=true:=fun _=>rfl
 have q1:cmpQ (p.floor:Rat) p≤0:=zH.2 (Rat.floor_le p)
 have q2:cmpQ p ((p.floor+1:Int):Rat)<0:=zI.2 (Rat.lt_floor_add_one p)
 have q3:cmpQ ((p.ceil - 1:Int):Rat) p<0:=zI.2 (Rat.lt_ceil_iff.1 (by omega))
 have q4:cmpQ p (p.ceil:Rat)≤0:=zH.2 Rat.le_ceil
 have q5:cmpQ p (p.floor:Rat)=0↔p.floor=p.ceil:=by
  rw [qA]
  constructor
  ·intro h
   rw [h,Rat.floor_intCast,Rat.ceil_intCast]
  ·intro h
   have h1:=Rat.floor_le p
   have h2:=Rat.le_ceil (x:=p)
   rw [← h] at h2
   grind
 try simp only [ep,zaa,k1,k2,k3,k4,k5,k6,k7,k8,a1,a2,e1,w1,w2,w3,c0,vo,oo,Option.isSome_some,Bool.not_true,decide_eq_true_eq,decide_eq_false_iff_not]
 try first | omega | (have q6:(cmpQ p (p.floor:Rat) == 0)=(p.floor == p.ceil):=(by rw [Bool.eq_iff_iff,beq_iff_eq,beq_iff_eq];exact q5);rw [q6];exact beq_self_eq_true _) | (have w4:p.ceil=0 - -p.ceil:=(by omega);rw [← w4];exact beq_self_eq_true _) | (rw [beq_iff_eq];by_cases h:p.floor=p.ceil<;>simp [h,q5]) | (simp;omega)
theorem zgF (l:(List Int))  :(IntKind.i64.wrap ((vO (flX (rq (madeR (l.take ((if (2:Int)<(l.length:Int) then (2:Int) else (l.length:Int)).toNat)))).1 (rq (madeR (l.take ((if (2:Int)<(l.length:Int) then (2:Int) else (l.length:Int)).toNat)))).2))+(1:Int)))<9223372036854775808:=by
 obtain ⟨p,ep,hp,f1,f2,c1,c2⟩:=zF l ((if (2:Int)<(l.length:Int) then (2:Int) else (l.length:Int)).toNat) (by split<;>omega)
 have k1:=qq_sz hp (by decide)
 have k2:=fl_sz hp (by decide)
 have k3:=ce_sz hp (by decide)
 have z7:∀a:Int,-60≤a→a≤60→qq (rq (some (a:Rat)))=some (a:Rat):=fun a h1 h2=>qq_sz (zU (k:=7) (by (have e7:(2:Nat) ^ 7=128:=(by decide));omega) (by decide)) (by decide)
 have k4:=z7 p.floor (by omega) (by omega)
 have k5:=z7 (p.floor+1) (by omega) (by omega)
 have k6:=z7 (p.ceil - 1) (by omega) (by omega)
 have k7:=z7 p.ceil (by omega) (by omega)
 have k8:=z7 0 (by omega) (by omega)
 have z0:Sz 7 (((0:Int):Rat)):=zU (by decide) (by decide)
 have hm:=z0.sub hp
 have a1:=zK z0 hp (by decide)
 have a2:=fl_sz hm (by decide)
 have e1:(((0:Int):Rat) - p).floor=-p.ceil:=by
  rw [Rat.ceil_eq_neg_floor_neg,show ((0:Int):Rat) - p=-p by grind,Int.neg_neg]
 have w1:=wr64 (n:=p.floor+1) (by omega)
 have w2:=wr64 (n:=p.ceil - 1) (by omega)
 have w3:=wr64 (n:=0 - -p.ceil) (by omega)
 have c0:∀a b:Rat,cmpO (some a) (some b)=cmpQ a b:=fun _ _=>rfl
 have vo:∀a:Int,vO (some a)=a:=fun _=>rfl
 have oo:∀a:Int,okO (some a)=true:=fun _=>rfl
 have q1:cmpQ (p.floor:Rat) p≤0:=zH.2 (Rat.floor_le p)
 have q2:cmpQ p ((p.floor+1:Int):Rat)<0:=zI.2 (Rat.lt_floor_add_one p)
 have q3:cmpQ ((p.ceil - 1:Int):Rat) p<0:=zI.2 (Rat.lt_ceil_iff.1 (by omega))
 have q4:cmpQ p (p.ceil:Rat)≤0:=zH.2 Rat.le_ceil
 have q5:cmpQ p (p.floor:Rat)=0↔p.floor=p.ceil:=by
  rw [qA]
  constructor
  ·intro h
   rw [h,Rat.floor_intCast,Rat.ceil_intCast]
  ·intro h
   have h1:=Rat.floor_le p
   have h2:=Rat.le_ceil (x:=p)
   rw [← h] at h2
   grind
 try simp only [ep,zaa,k1,k2,k3,k4,k5,k6,k7,k8,a1,a2,e1,w1,w2,w3,c0,vo,oo,Option.isSome_some,Bool.not_true,decide_eq_true_eq,decide_eq_false_iff_not]
 try first | omega | (have q6:(cmpQ p (p.floor:Rat) == 0)=(p.floor == p.ceil):=(by rw [Bool.eq_iff_iff,beq_iff_eq,beq_iff_eq];exact q5);rw [q6];exact beq_self_eq_true _) | (have w4:p.ceil=0 - -p.ceil:=(by omega);rw [← w4];exact beq_self_eq_true _) | (rw [beq_iff_eq];by_cases h:p.floor=p.ceil<;>simp [h,q5]) | (simp;omega)
theorem zgG (l:(List Int))  :((decide ((cmpO (qq (rq (madeR (l.take ((if (2:Int)<(l.length:Int) then (2:Int) else (l.length:Int)).toNat))))) (qq ((nz (IntKind.i64.wrap ((vO (flX (rq (madeR (l.take ((if (2:Int)<(l.length:Int) then (2:Int) else (l.length:Int)).toNat)))).1 (rq (madeR (l.take ((if (2:Int)<(l.length:Int) then (2:Int) else (l.length:Int)).toNat)))).2))+(1:Int))),nz 1)))) ≥ (0:Int))))=false:=by
 obtain ⟨p,ep,hp,f1,f2,c1,c2⟩:=zF l ((if (2:Int)<(l.length:Int) then (2:Int) else (l.length:Int)).toNat) (by split<;>omega)
 have k1:=qq_sz hp (by decide)
 have k2:=fl_sz hp (by decide)
 have k3:=ce_sz hp (by decide)
 have z7:∀a:Int,-60≤a→a≤60→qq (rq (some (a:Rat)))=some (a:Rat):=fun a h1 h2=>qq_sz (zU (k:=7) (by (have e7:(2:Nat) ^ 7=128:=(by decide));omega) (by decide)) (by decide)
 have k4:=z7 p.floor (by omega) (by omega)
 have k5:=z7 (p.floor+1) (by omega) (by omega)
 have k6:=z7 (p.ceil - 1) (by omega) (by omega)
 have k7:=z7 p.ceil (by omega) (by omega)
 have k8:=z7 0 (by omega) (by omega)
 have z0:Sz 7 (((0:Int):Rat)):=zU (by decide) (by decide)
 have hm:=z0.sub hp
 have a1:=zK z0 hp (by decide)
 have a2:=fl_sz hm (by decide)
 have e1:(((0:Int):Rat) - p).floor=-p.ceil:=by
  rw [Rat.ceil_eq_neg_floor_neg,show ((0:Int):Rat) - p=-p by grind,Int.neg_neg]
 have w1:=wr64 (n:=p.floor+1) (by omega)
 have w2:=wr64 (n:=p.ceil - 1) (by omega)
 have w3:=wr64 (n:=0 - -p.ceil) (by omega)
 have c0:∀a b:Rat,cmpO (some a) (some b)=cmpQ a b:=fun _ _=>rfl
 have vo:∀a:Int,vO (some a)=a:=fun _=>rfl
 have oo:∀a:Int,okO (some a)=true:=fun _=>rfl
 have q1:cmpQ (p.floor:Rat) p≤0:=zH.2 (Rat.floor_le p)
 have q2:cmpQ p ((p.floor+1:Int):Rat)<0:=zI.2 (Rat.lt_floor_add_one p)
 have q3:cmpQ ((p.ceil - 1:Int):Rat) p<0:=zI.2 (Rat.lt_ceil_iff.1 (by omega))
 have q4:cmpQ p (p.ceil:Rat)≤0:=zH.2 Rat.le_ceil
 have q5:cmpQ p (p.floor:Rat)=0↔p.floor=p.ceil:=by
  rw [qA]
  constructor
  ·intro h
   rw [h,Rat.floor_intCast,Rat.ceil_intCast]
  ·intro h
   have h1:=Rat.floor_le p
   have h2:=Rat.le_ceil (x:=p)
   rw [← h] at h2
   grind
 try simp only [ep,zaa,k1,k2,k3,k4,k5,k6,k7,k8,a1,a2,e1,w1,w2,w3,c0,vo,oo,Option.isSome_some,Bool.not_true,decide_eq_true_eq,decide_eq_false_iff_not]
 try first | omega | (have q6:(cmpQ p (p.floor:Rat) == 0)=(p.floor == p.ceil):=(by rw [Bool.eq_iff_iff,beq_iff_eq,beq_iff_eq];exact q5);rw [q6];exact beq_self_eq_true _) | (have w4:p.ceil=0 - -p.ceil:=(by omega);rw [← w4];exact beq_self_eq_true _) | (rw [beq_iff_eq];by_cases h:p.floor=p.ceil<;>simp [h,q5]) | (simp;omega)
theorem zgH (l:(List Int))  :-9223372036854775808≤(IntKind.i64.wrap ((vO (ceX (rq (madeR (l.take ((if (2:Int)<(l.length:Int) then (2:Int) else (l.length:Int)).toNat)))).1 (rq (madeR (l.take ((if (2:Int)<(l.length:Int) then (2:Int) else (l.length:Int)).toNat)))).2)) - (1:Int))):=by
 obtain ⟨p,ep,hp,f1,f2,c1,c2⟩:=zF l ((if (2:Int)<(l.length:Int) then (2:Int) else (l.length:Int)).toNat) (by split<;>omega)
 have k1:=qq_sz hp (by decide)
 have k2:=fl_sz hp (by decide)
 have k3:=ce_sz hp (by decide)
 have z7:∀a:Int,-60≤a→a≤60→qq (rq (some (a:Rat)))=some (a:Rat):=fun a h1 h2=>qq_sz (zU (k:=7) (by (have e7:(2:Nat) ^ 7=128:=(by decide));omega) (by decide)) (by decide)
 have k4:=z7 p.floor (by omega) (by omega)
 have k5:=z7 (p.floor+1) (by omega) (by omega)
 have k6:=z7 (p.ceil - 1) (by omega) (by omega)
 have k7:=z7 p.ceil (by omega) (by omega)
 have k8:=z7 0 (by omega) (by omega)
 have z0:Sz 7 (((0:Int):Rat)):=zU (by decide) (by decide)
 have hm:=z0.sub hp
 have a1:=zK z0 hp (by decide)
 have a2:=fl_sz hm (by decide)
 have e1:(((0:Int):Rat) - p).floor=-p.ceil:=by
  rw [Rat.ceil_eq_neg_floor_neg,show ((0:Int):Rat) - p=-p by grind,Int.neg_neg]
 have w1:=wr64 (n:=p.floor+1) (by omega)
 have w2:=wr64 (n:=p.ceil - 1) (by omega)
 have w3:=wr64 (n:=0 - -p.ceil) (by omega)
 have c0:∀a b:Rat,cmpO (some a) (some b)=cmpQ a b:=fun _ _=>rfl
 have vo:∀a:Int,vO (some a)=a:=fun _=>rfl
 have oo:∀a:Int,okO (some a)=true:=fun _=>rfl
 have q1:cmpQ (p.floor:Rat) p≤0:=zH.2 (Rat.floor_le p)
 have q2:cmpQ p ((p.floor+1:Int):Rat)<0:=zI.2 (Rat.lt_floor_add_one p)
 have q3:cmpQ ((p.ceil - 1:Int):Rat) p<0:=zI.2 (Rat.lt_ceil_iff.1 (by omega))
 have q4:cmpQ p (p.ceil:Rat)≤0:=zH.2 Rat.le_ceil
 have q5:cmpQ p (p.floor:Rat)=0↔p.floor=p.ceil:=by
  rw [qA]
  constructor
  ·intro h
   rw [h,Rat.floor_intCast,Rat.ceil_intCast]
  ·intro h
   have h1:=Rat.floor_le p
   have h2:=Rat.le_ceil (x:=p)
   rw [← h] at h2
   grind
 try simp only [ep,zaa,k1,k2,k3,k4,k5,k6,k7,k8,a1,a2,e1,w1,w2,w3,c0,vo,oo,Option.isSome_some,Bool.not_true,decide_eq_true_eq,decide_eq_false_iff_not]
 try first | omega | (have q6:(cmpQ p (p.floor:Rat) == 0)=(p.floor == p.ceil):=(by rw [Bool.eq_iff_iff,beq_iff_eq,beq_iff_eq];exact q5);rw [q6];exact beq_self_eq_true _) | (have w4:p.ceil=0 - -p.ceil:=(by omega);rw [← w4];exact beq_self_eq_true _) | (rw [beq_iff_eq];by_cases h:p.floor=p.ceil<;>simp [h,q5]) | (simp;omega)
theorem zgI (l:(List Int))  :(IntKind.i64.wrap ((vO (ceX (rq (madeR (l.take ((if (2:Int)<(l.length:Int) then (2:Int) else (l.length:Int)).toNat)))).1 (rq (madeR (l.take ((if (2:Int)<(l.length:Int) then (2:Int) else (l.length:Int)).toNat)))).2)) - (1:Int)))<9223372036854775808:=by
 obtain ⟨p,ep,hp,f1,f2,c1,c2⟩:=zF l ((if (2:Int)<(l.length:Int) then (2:Int) else (l.length:Int)).toNat) (by split<;>omega)
 have k1:=qq_sz hp (by decide)
 have k2:=fl_sz hp (by decide)
 have k3:=ce_sz hp (by decide)
 have z7:∀a:Int,-60≤a→a≤60→qq (rq (some (a:Rat)))=some (a:Rat):=fun a h1 h2=>qq_sz (zU (k:=7) (by (have e7:(2:Nat) ^ 7=128:=(by decide));omega) (by decide)) (by decide)
 have k4:=z7 p.floor (by omega) (by omega)
 have k5:=z7 (p.floor+1) (by omega) (by omega)
 have k6:=z7 (p.ceil - 1) (by omega) (by omega)
 have k7:=z7 p.ceil (by omega) (by omega)
 have k8:=z7 0 (by omega) (by omega)
 have z0:Sz 7 (((0:Int):Rat)):=zU (by decide) (by decide)
 have hm:=z0.sub hp
 have a1:=zK z0 hp (by decide)
 have a2:=fl_sz hm (by decide)
 have e1:(((0:Int):Rat) - p).floor=-p.ceil:=by
  rw [Rat.ceil_eq_neg_floor_neg,show ((0:Int):Rat) - p=-p by grind,Int.neg_neg]
 have w1:=wr64 (n:=p.floor+1) (by omega)
 have w2:=wr64 (n:=p.ceil - 1) (by omega)
 have w3:=wr64 (n:=0 - -p.ceil) (by omega)
 have c0:∀a b:Rat,cmpO (some a) (some b)=cmpQ a b:=fun _ _=>rfl
 have vo:∀a:Int,vO (some a)=a:=fun _=>rfl
 have oo:∀a:Int,okO (some a)=true:=fun _=>rfl
 have q1:cmpQ (p.floor:Rat) p≤0:=zH.2 (Rat.floor_le p)
 have q2:cmpQ p ((p.floor+1:Int):Rat)<0:=zI.2 (Rat.lt_floor_add_one p)
 have q3:cmpQ ((p.ceil - 1:Int):Rat) p<0:=zI.2 (Rat.lt_ceil_iff.1 (by omega))
 have q4:cmpQ p (p.ceil:Rat)≤0:=zH.2 Rat.le_ceil
 have q5:cmpQ p (p.floor:Rat)=0↔p.floor=p.ceil:=by
  rw [qA]
  constructor
  ·intro h
   rw [h,Rat.floor_intCast,Rat.ceil_intCast]
  ·intro h
   have h1:=Rat.floor_le p
   have h2:=Rat.le_ceil (x:=p)
   rw [← h] at h2
   grind
 try simp only [ep,zaa,k1,k2,k3,k4,k5,k6,k7,k8,a1,a2,e1,w1,w2,w3,c0,vo,oo,Option.isSome_some,Bool.not_true,decide_eq_true_eq,decide_eq_false_iff_not]
 try first | omega | (have q6:(cmpQ p (p.floor:Rat) == 0)=(p.floor == p.ceil):=(by rw [Bool.eq_iff_iff,beq_iff_eq,beq_iff_eq];exact q5);rw [q6];exact beq_self_eq_true _) | (have w4:p.ceil=0 - -p.ceil:=(by omega);rw [← w4];exact beq_self_eq_true _) | (rw [beq_iff_eq];by_cases h:p.floor=p.ceil<;>simp [h,q5]) | (simp;omega)
theorem zgJ (l:(List Int))  :((decide ((cmpO (qq ((nz (IntKind.i64.wrap ((vO (ceX (rq (madeR (l.take ((if (2:Int)<(l.length:Int) then (2:Int) else (l.length:Int)).toNat)))).1 (rq (madeR (l.take ((if (2:Int)<(l.length:Int) then (2:Int) else (l.length:Int)).toNat)))).2)) - (1:Int))),nz 1))) (qq (rq (madeR (l.take ((if (2:Int)<(l.length:Int) then (2:Int) else (l.length:Int)).toNat)))))) ≥ (0:Int))))=false:=by
 obtain ⟨p,ep,hp,f1,f2,c1,c2⟩:=zF l ((if (2:Int)<(l.length:Int) then (2:Int) else (l.length:Int)).toNat) (by split<;>omega)
 have k1:=qq_sz hp (by decide)
 have k2:=fl_sz hp (by decide)
 have k3:=ce_sz hp (by decide)
 have z7:∀a:Int,-60≤a→a≤60→qq (rq (some (a:Rat)))=some (a:Rat):=fun a h1 h2=>qq_sz (zU (k:=7) (by (have e7:(2:Nat) ^ 7=128:=(by decide));omega) (by decide)) (by decide)
 have k4:=z7 p.floor (by omega) (by omega)
 have k5:=z7 (p.floor+1) (by omega) (by omega)
 have k6:=z7 (p.ceil - 1) (by omega) (by omega)
 have k7:=z7 p.ceil (by omega) (by omega)
 have k8:=z7 0 (by omega) (by omega)
 have z0:Sz 7 (((0:Int):Rat)):=zU (by decide) (by decide)
 have hm:=z0.sub hp
 have a1:=zK z0 hp (by decide)
 have a2:=fl_sz hm (by decide)
 have e1:(((0:Int):Rat) - p).floor=-p.ceil:=by
  rw [Rat.ceil_eq_neg_floor_neg,show ((0:Int):Rat) - p=-p by grind,Int.neg_neg]
 have w1:=wr64 (n:=p.floor+1) (by omega)
 have w2:=wr64 (n:=p.ceil - 1) (by omega)
 have w3:=wr64 (n:=0 - -p.ceil) (by omega)
 have c0:∀a b:Rat,cmpO (some a) (some b)=cmpQ a b:=fun _ _=>rfl
 have vo:∀a:Int,vO (some a)=a:=fun _=>rfl
 have oo:∀a:Int,okO (some a)=true:=fun _=>rfl
 have q1:cmpQ (p.floor:Rat) p≤0:=zH.2 (Rat.floor_le p)
 have q2:cmpQ p ((p.floor+1:Int):Rat)<0:=zI.2 (Rat.lt_floor_add_one p)
 have q3:cmpQ ((p.ceil - 1:Int):Rat) p<0:=zI.2 (Rat.lt_ceil_iff.1 (by omega))
 have q4:cmpQ p (p.ceil:Rat)≤0:=zH.2 Rat.le_ceil
 have q5:cmpQ p (p.floor:Rat)=0↔p.floor=p.ceil:=by
  rw [qA]
  constructor
  ·intro h
   rw [h,Rat.floor_intCast,Rat.ceil_intCast]
  ·intro h
   have h1:=Rat.floor_le p
   have h2:=Rat.le_ceil (x:=p)
   rw [← h] at h2
   grind
 try simp only [ep,zaa,k1,k2,k3,k4,k5,k6,k7,k8,a1,a2,e1,w1,w2,w3,c0,vo,oo,Option.isSome_some,Bool.not_true,decide_eq_true_eq,decide_eq_false_iff_not]
 try first | omega | (have q6:(cmpQ p (p.floor:Rat) == 0)=(p.floor == p.ceil):=(by rw [Bool.eq_iff_iff,beq_iff_eq,beq_iff_eq];exact q5);rw [q6];exact beq_self_eq_true _) | (have w4:p.ceil=0 - -p.ceil:=(by omega);rw [← w4];exact beq_self_eq_true _) | (rw [beq_iff_eq];by_cases h:p.floor=p.ceil<;>simp [h,q5]) | (simp;omega)
theorem zgK (l:(List Int))  :-9223372036854775808≤(vO (ceX (rq (madeR (l.take ((if (2:Int)<(l.length:Int) then (2:Int) else (l.length:Int)).toNat)))).1 (rq (madeR (l.take ((if (2:Int)<(l.length:Int) then (2:Int) else (l.length:Int)).toNat)))).2)):=by
 obtain ⟨p,ep,hp,f1,f2,c1,c2⟩:=zF l ((if (2:Int)<(l.length:Int) then (2:Int) else (l.length:Int)).toNat) (by split<;>omega)
 have k1:=qq_sz hp (by decide)
 have k2:=fl_sz hp (by decide)
 have k3:=ce_sz hp (by decide)
 have z7:∀a:Int,-60≤a→a≤60→qq (rq (some (a:Rat)))=some (a:Rat):=fun a h1 h2=>qq_sz (zU (k:=7) (by (have e7:(2:Nat) ^ 7=128:=(by decide));omega) (by decide)) (by decide)
 have k4:=z7 p.floor (by omega) (by omega)
 have k5:=z7 (p.floor+1) (by omega) (by omega)
 have k6:=z7 (p.ceil - 1) (by omega) (by omega)
 have k7:=z7 p.ceil (by omega) (by omega)
 have k8:=z7 0 (by omega) (by omega)
 have z0:Sz 7 (((0:Int):Rat)):=zU (by decide) (by decide)
 have hm:=z0.sub hp
 have a1:=zK z0 hp (by decide)
 have a2:=fl_sz hm (by decide)
 have e1:(((0:Int):Rat) - p).floor=-p.ceil:=by
  rw [Rat.ceil_eq_neg_floor_neg,show ((0:Int):Rat) - p=-p by grind,Int.neg_neg]
 have w1:=wr64 (n:=p.floor+1) (by omega)
 have w2:=wr64 (n:=p.ceil - 1) (by omega)
 have w3:=wr64 (n:=0 - -p.ceil) (by omega)
 have c0:∀a b:Rat,cmpO (some a) (some b)=cmpQ a b:=fun _ _=>rfl
 have vo:∀a:Int,vO (some a)=a:=fun _=>rfl
 have oo:∀a:Int,okO (some a)=true:=fun _=>rfl
 have q1:cmpQ (p.floor:Rat) p≤0:=zH.2 (Rat.floor_le p)
 have q2:cmpQ p ((p.floor+1:Int):Rat)<0:=zI.2 (Rat.lt_floor_add_one p)
 have q3:cmpQ ((p.ceil - 1:Int):Rat) p<0:=zI.2 (Rat.lt_ceil_iff.1 (by omega))
 have q4:cmpQ p (p.ceil:Rat)≤0:=zH.2 Rat.le_ceil
 have q5:cmpQ p (p.floor:Rat)=0↔p.floor=p.ceil:=by
  rw [qA]
  constructor
  ·intro h
   rw [h,Rat.floor_intCast,Rat.ceil_intCast]
  ·intro h
   have h1:=Rat.floor_le p
   have h2:=Rat.le_ceil (x:=p)
   rw [← h] at h2
   grind
 try simp only [ep,zaa,k1,k2,k3,k4,k5,k6,k7,k8,a1,a2,e1,w1,w2,w3,c0,vo,oo,Option.isSome_some,Bool.not_true,decide_eq_true_eq,decide_eq_false_iff_not]
 try first | omega | (have q6:(cmpQ p (p.floor:Rat) == 0)=(p.floor == p.ceil):=(by rw [Bool.eq_iff_iff,beq_iff_eq,beq_iff_eq];exact q5);rw [q6];exact beq_self_eq_true _) | (have w4:p.ceil=0 - -p.ceil:=(by omega);rw [← w4];exact beq_self_eq_true _) | (rw [beq_iff_eq];by_cases h:p.floor=p.ceil<;>simp [h,q5]) | (simp;omega)
theorem zgL (l:(List Int))  :(vO (ceX (rq (madeR (l.take ((if (2:Int)<(l.length:Int) then (2:Int) else (l.length:Int)).toNat)))).1 (rq (madeR (l.take ((if (2:Int)<(l.length:Int) then (2:Int) else (l.length:Int)).toNat)))).2))<9223372036854775808:=by
 obtain ⟨p,ep,hp,f1,f2,c1,c2⟩:=zF l ((if (2:Int)<(l.length:Int) then (2:Int) else (l.length:Int)).toNat) (by split<;>omega)
 have k1:=qq_sz hp (by decide)
 have k2:=fl_sz hp (by decide)
 have k3:=ce_sz hp (by decide)
 have z7:∀a:Int,-60≤a→a≤60→qq (rq (some (a:Rat)))=some (a:Rat):=fun a h1 h2=>qq_sz (zU (k:=7) (by (have e7:(2:Nat) ^ 7=128:=(by decide));omega) (by decide)) (by decide)
 have k4:=z7 p.floor (by omega) (by omega)
 have k5:=z7 (p.floor+1) (by omega) (by omega)
 have k6:=z7 (p.ceil - 1) (by omega) (by omega)
 have k7:=z7 p.ceil (by omega) (by omega)
 have k8:=z7 0 (by omega) (by omega)
 have z0:Sz 7 (((0:Int):Rat)):=zU (by decide) (by decide)
 have hm:=z0.sub hp
 have a1:=zK z0 hp (by decide)
 have a2:=fl_sz hm (by decide)
 have e1:(((0:Int):Rat) - p).floor=-p.ceil:=by
  rw [Rat.ceil_eq_neg_floor_neg,show ((0:Int):Rat) - p=-p by grind,Int.neg_neg]
 have w1:=wr64 (n:=p.floor+1) (by omega)
 have w2:=wr64 (n:=p.ceil - 1) (by omega)
 have w3:=wr64 (n:=0 - -p.ceil) (by omega)
 have c0:∀a b:Rat,cmpO (some a) (some b)=cmpQ a b:=fun _ _=>rfl
 have vo:∀a:Int,vO (some a)=a:=fun _=>rfl
 have oo:∀a:Int,okO (some a)=true:=fun _=>rfl
 have q1:cmpQ (p.floor:Rat) p≤0:=zH.2 (Rat.floor_le p)
 have q2:cmpQ p ((p.floor+1:Int):Rat)<0:=zI.2 (Rat.lt_floor_add_one p)
 have q3:cmpQ ((p.ceil - 1:Int):Rat) p<0:=zI.2 (Rat.lt_ceil_iff.1 (by omega))
 have q4:cmpQ p (p.ceil:Rat)≤0:=zH.2 Rat.le_ceil
 have q5:cmpQ p (p.floor:Rat)=0↔p.floor=p.ceil:=by
  rw [qA]
  constructor
  ·intro h
   rw [h,Rat.floor_intCast,Rat.ceil_intCast]
  ·intro h
   have h1:=Rat.floor_le p
   have h2:=Rat.le_ceil (x:=p)
   rw [← h] at h2
   grind
 try simp only [ep,zaa,k1,k2,k3,k4,k5,k6,k7,k8,a1,a2,e1,w1,w2,w3,c0,vo,oo,Option.isSome_some,Bool.not_true,decide_eq_true_eq,decide_eq_false_iff_not]
 try first | omega | (have q6:(cmpQ p (p.floor:Rat) == 0)=(p.floor == p.ceil):=(by rw [Bool.eq_iff_iff,beq_iff_eq,beq_iff_eq];exact q5);rw [q6];exact beq_self_eq_true _) | (have w4:p.ceil=0 - -p.ceil:=(by omega);rw [← w4];exact beq_self_eq_true _) | (rw [beq_iff_eq];by_cases h:p.floor=p.ceil<;>simp [h,q5]) | (simp;omega)
theorem zgM (l:(List Int))  :((decide ((cmpO (qq (rq (madeR (l.take ((if (2:Int)<(l.length:Int) then (2:Int) else (l.length:Int)).toNat))))) (qq ((nz (vO (ceX (rq (madeR (l.take ((if (2:Int)<(l.length:Int) then (2:Int) else (l.length:Int)).toNat)))).1 (rq (madeR (l.take ((if (2:Int)<(l.length:Int) then (2:Int) else (l.length:Int)).toNat)))).2)),nz 1)))) > (0:Int))))=false:=by
 obtain ⟨p,ep,hp,f1,f2,c1,c2⟩:=zF l ((if (2:Int)<(l.length:Int) then (2:Int) else (l.length:Int)).toNat) (by split<;>omega)
 have k1:=qq_sz hp (by decide)
 have k2:=fl_sz hp (by decide)
 have k3:=ce_sz hp (by decide)
 have z7:∀a:Int,-60≤a→a≤60→qq (rq (some (a:Rat)))=some (a:Rat):=fun a h1 h2=>qq_sz (zU (k:=7) (by (have e7:(2:Nat) ^ 7=128:=(by decide));omega) (by decide)) (by decide)
 have k4:=z7 p.floor (by omega) (by omega)
 have k5:=z7 (p.floor+1) (by omega) (by omega)
 have k6:=z7 (p.ceil - 1) (by omega) (by omega)
 have k7:=z7 p.ceil (by omega) (by omega)
 have k8:=z7 0 (by omega) (by omega)
 have z0:Sz 7 (((0:Int):Rat)):=zU (by decide) (by decide)
 have hm:=z0.sub hp
 have a1:=zK z0 hp (by decide)
 have a2:=fl_sz hm (by decide)
 have e1:(((0:Int):Rat) - p).floor=-p.ceil:=by
  rw [Rat.ceil_eq_neg_floor_neg,show ((0:Int):Rat) - p=-p by grind,Int.neg_neg]
 have w1:=wr64 (n:=p.floor+1) (by omega)
 have w2:=wr64 (n:=p.ceil - 1) (by omega)
 have w3:=wr64 (n:=0 - -p.ceil) (by omega)
 have c0:∀a b:Rat,cmpO (some a) (some b)=cmpQ a b:=fun _ _=>rfl
 have vo:∀a:Int,vO (some a)=a:=fun _=>rfl
 have oo:∀a:Int,okO (some a)=true:=fun _=>rfl
 have q1:cmpQ (p.floor:Rat) p≤0:=zH.2 (Rat.floor_le p)
 have q2:cmpQ p ((p.floor+1:Int):Rat)<0:=zI.2 (Rat.lt_floor_add_one p)
 have q3:cmpQ ((p.ceil - 1:Int):Rat) p<0:=zI.2 (Rat.lt_ceil_iff.1 (by omega))
 have q4:cmpQ p (p.ceil:Rat)≤0:=zH.2 Rat.le_ceil
 have q5:cmpQ p (p.floor:Rat)=0↔p.floor=p.ceil:=by
  rw [qA]
  constructor
  ·intro h
   rw [h,Rat.floor_intCast,Rat.ceil_intCast]
  ·intro h
   have h1:=Rat.floor_le p
   have h2:=Rat.le_ceil (x:=p)
   rw [← h] at h2
   grind
 try simp only [ep,zaa,k1,k2,k3,k4,k5,k6,k7,k8,a1,a2,e1,w1,w2,w3,c0,vo,oo,Option.isSome_some,Bool.not_true,decide_eq_true_eq,decide_eq_false_iff_not]
 try first | omega | (have q6:(cmpQ p (p.floor:Rat) == 0)=(p.floor == p.ceil):=(by rw [Bool.eq_iff_iff,beq_iff_eq,beq_iff_eq];exact q5);rw [q6];exact beq_self_eq_true _) | (have w4:p.ceil=0 - -p.ceil:=(by omega);rw [← w4];exact beq_self_eq_true _) | (rw [beq_iff_eq];by_cases h:p.floor=p.ceil<;>simp [h,q5]) | (simp;omega)
theorem zgN (l:(List Int))  :-9223372036854775808≤(0:Int):=by
 obtain ⟨p,ep,hp,f1,f2,c1,c2⟩:=zF l ((if (2:Int)<(l.length:Int) then (2:Int) else (l.length:Int)).toNat) (by split<;>omega)
 have k1:=qq_sz hp (by decide)
 have k2:=fl_sz hp (by decide)
 have k3:=ce_sz hp (by decide)
 have z7:∀a:Int,-60≤a→a≤60→qq (rq (some (a:Rat)))=some (a:Rat):=fun a h1 h2=>qq_sz (zU (k:=7) (by (have e7:(2:Nat) ^ 7=128:=(by decide));omega) (by decide)) (by decide)
 have k4:=z7 p.floor (by omega) (by omega)
 have k5:=z7 (p.floor+1) (by omega) (by omega)
 have k6:=z7 (p.ceil - 1) (by omega) (by omega)
 have k7:=z7 p.ceil (by omega) (by omega)
 have k8:=z7 0 (by omega) (by omega)
 have z0:Sz 7 (((0:Int):Rat)):=zU (by decide) (by decide)
 have hm:=z0.sub hp
 have a1:=zK z0 hp (by decide)
 have a2:=fl_sz hm (by decide)
 have e1:(((0:Int):Rat) - p).floor=-p.ceil:=by
  rw [Rat.ceil_eq_neg_floor_neg,show ((0:Int):Rat) - p=-p by grind,Int.neg_neg]
 have w1:=wr64 (n:=p.floor+1) (by omega)
 have w2:=wr64 (n:=p.ceil - 1) (by omega)
 have w3:=wr64 (n:=0 - -p.ceil) (by omega)
 have c0:∀a b:Rat,cmpO (some a) (some b)=cmpQ a b:=fun _ _=>rfl
 have vo:∀a:Int,vO (some a)=a:=fun _=>rfl
 have oo:∀a:Int,okO (some a)=true:=fun _=>rfl
 have q1:cmpQ (p.floor:Rat) p≤0:=zH.2 (Rat.floor_le p)
 have q2:cmpQ p ((p.floor+1:Int):Rat)<0:=zI.2 (Rat.lt_floor_add_one p)
 have q3:cmpQ ((p.ceil - 1:Int):Rat) p<0:=zI.2 (Rat.lt_ceil_iff.1 (by omega))
 have q4:cmpQ p (p.ceil:Rat)≤0:=zH.2 Rat.le_ceil
 have q5:cmpQ p (p.floor:Rat)=0↔p.floor=p.ceil:=by
  rw [qA]
  constructor
  ·intro h
   rw [h,Rat.floor_intCast,Rat.ceil_intCast]
  ·intro h
   have h1:=Rat.floor_le p
   have h2:=Rat.le_ceil (x:=p)
   rw [← h] at h2
   grind
 try simp only [ep,zaa,k1,k2,k3,k4,k5,k6,k7,k8,a1,a2,e1,w1,w2,w3,c0,vo,oo,Option.isSome_some,Bool.not_true,decide_eq_true_eq,decide_eq_false_iff_not]
 try first | omega | (have q6:(cmpQ p (p.floor:Rat) == 0)=(p.floor == p.ceil):=(by rw [Bool.eq_iff_iff,beq_iff_eq,beq_iff_eq];exact q5);rw [q6];exact beq_self_eq_true _) | (have w4:p.ceil=0 - -p.ceil:=(by omega);rw [← w4];exact beq_self_eq_true _) | (rw [beq_iff_eq];by_cases h:p.floor=p.ceil<;>simp [h,q5]) | (simp;omega)
theorem zgO (l:(List Int))  :(0:Int)<9223372036854775808:=by
 obtain ⟨p,ep,hp,f1,f2,c1,c2⟩:=zF l ((if (2:Int)<(l.length:Int) then (2:Int) else (l.length:Int)).toNat) (by split<;>omega)
 have k1:=qq_sz hp (by decide)
 have k2:=fl_sz hp (by decide)
 have k3:=ce_sz hp (by decide)
 have z7:∀a:Int,-60≤a→a≤60→qq (rq (some (a:Rat)))=some (a:Rat):=fun a h1 h2=>qq_sz (zU (k:=7) (by (have e7:(2:Nat) ^ 7=128:=(by decide));omega) (by decide)) (by decide)
 have k4:=z7 p.floor (by omega) (by omega)
 have k5:=z7 (p.floor+1) (by omega) (by omega)
 have k6:=z7 (p.ceil - 1) (by omega) (by omega)
 have k7:=z7 p.ceil (by omega) (by omega)
 have k8:=z7 0 (by omega) (by omega)
 have z0:Sz 7 (((0:Int):Rat)):=zU (by decide) (by decide)
 have hm:=z0.sub hp
 have a1:=zK z0 hp (by decide)
 have a2:=fl_sz hm (by decide)
 have e1:(((0:Int):Rat) - p).floor=-p.ceil:=by
  rw [Rat.ceil_eq_neg_floor_neg,show ((0:Int):Rat) - p=-p by grind,Int.neg_neg]
 have w1:=wr64 (n:=p.floor+1) (by omega)
 have w2:=wr64 (n:=p.ceil - 1) (by omega)
 have w3:=wr64 (n:=0 - -p.ceil) (by omega)
 have c0:∀a b:Rat,cmpO (some a) (some b)=cmpQ a b:=fun _ _=>rfl
 have vo:∀a:Int,vO (some a)=a:=fun _=>rfl
 have oo:∀a:Int,okO (some a)=true:=fun _=>rfl
 have q1:cmpQ (p.floor:Rat) p≤0:=zH.2 (Rat.floor_le p)
 have q2:cmpQ p ((p.floor+1:Int):Rat)<0:=zI.2 (Rat.lt_floor_add_one p)
 have q3:cmpQ ((p.ceil - 1:Int):Rat) p<0:=zI.2 (Rat.lt_ceil_iff.1 (by omega))
 have q4:cmpQ p (p.ceil:Rat)≤0:=zH.2 Rat.le_ceil
 have q5:cmpQ p (p.floor:Rat)=0↔p.floor=p.ceil:=by
  rw [qA]
  constructor
  ·intro h
   rw [h,Rat.floor_intCast,Rat.ceil_intCast]
  ·intro h
   have h1:=Rat.floor_le p
   have h2:=Rat.le_ceil (x:=p)
   rw [← h] at h2
   grind
 try simp only [ep,zaa,k1,k2,k3,k4,k5,k6,k7,k8,a1,a2,e1,w1,w2,w3,c0,vo,oo,Option.isSome_some,Bool.not_true,decide_eq_true_eq,decide_eq_false_iff_not]
 try first | omega | (have q6:(cmpQ p (p.floor:Rat) == 0)=(p.floor == p.ceil):=(by rw [Bool.eq_iff_iff,beq_iff_eq,beq_iff_eq];exact q5);rw [q6];exact beq_self_eq_true _) | (have w4:p.ceil=0 - -p.ceil:=(by omega);rw [← w4];exact beq_self_eq_true _) | (rw [beq_iff_eq];by_cases h:p.floor=p.ceil<;>simp [h,q5]) | (simp;omega)
theorem zgP (l:(List Int))  :((true))=true:=by
 obtain ⟨p,ep,hp,f1,f2,c1,c2⟩:=zF l ((if (2:Int)<(l.length:Int) then (2:Int) else (l.length:Int)).toNat) (by split<;>omega)
 have k1:=qq_sz hp (by decide)
 have k2:=fl_sz hp (by decide)
 have k3:=ce_sz hp (by decide)
 have z7:∀a:Int,-60≤a→a≤60→qq (rq (some (a:Rat)))=some (a:Rat):=fun a h1 h2=>qq_sz (zU (k:=7) (by (have e7:(2:Nat) ^ 7=128:=(by decide));omega) (by decide)) (by decide)
 have k4:=z7 p.floor (by omega) (by omega)
 have k5:=z7 (p.floor+1) (by omega) (by omega)
 have k6:=z7 (p.ceil - 1) (by omega) (by omega)
 have k7:=z7 p.ceil (by omega) (by omega)
 have k8:=z7 0 (by omega) (by omega)
 have z0:Sz 7 (((0:Int):Rat)):=zU (by decide) (by decide)
 have hm:=z0.sub hp
 have a1:=zK z0 hp (by decide)
 have a2:=fl_sz hm (by decide)
 have e1:(((0:Int):Rat) - p).floor=-p.ceil:=by
  rw [Rat.ceil_eq_neg_floor_neg,show ((0:Int):Rat) - p=-p by grind,Int.neg_neg]
 have w1:=wr64 (n:=p.floor+1) (by omega)
 have w2:=wr64 (n:=p.ceil - 1) (by omega)
 have w3:=wr64 (n:=0 - -p.ceil) (by omega)
 have c0:∀a b:Rat,cmpO (some a) (some b)=cmpQ a b:=fun _ _=>rfl
 have vo:∀a:Int,vO (some a)=a:=fun _=>rfl
 have oo:∀a:Int,okO (some a)=true:=fun _=>rfl
 have q1:cmpQ (p.floor:Rat) p≤0:=zH.2 (Rat.floor_le p)
 have q2:cmpQ p ((p.floor+1:Int):Rat)<0:=zI.2 (Rat.lt_floor_add_one p)
 have q3:cmpQ ((p.ceil - 1:Int):Rat) p<0:=zI.2 (Rat.lt_ceil_iff.1 (by omega))
 have q4:cmpQ p (p.ceil:Rat)≤0:=zH.2 Rat.le_ceil
 have q5:cmpQ p (p.floor:Rat)=0↔p.floor=p.ceil:=by
  rw [qA]
  constructor
  ·intro h
   rw [h,Rat.floor_intCast,Rat.ceil_intCast]
  ·intro h
   have h1:=Rat.floor_le p
   have h2:=Rat.le_ceil (x:=p)
   rw [← h] at h2
   grind
 try simp only [ep,zaa,k1,k2,k3,k4,k5,k6,k7,k8,a1,a2,e1,w1,w2,w3,c0,vo,oo,Option.isSome_some,Bool.not_true,decide_eq_true_eq,decide_eq_false_iff_not]
 try first | omega | (have q6:(cmpQ p (p.floor:Rat) == 0)=(p.floor == p.ceil):=(by rw [Bool.eq_iff_iff,beq_iff_eq,beq_iff_eq];exact q5);rw [q6];exact beq_self_eq_true _) | (have w4:p.ceil=0 - -p.ceil:=(by omega);rw [← w4];exact beq_self_eq_true _) | (rw [beq_iff_eq];by_cases h:p.floor=p.ceil<;>simp [h,q5]) | (simp;omega)
theorem zgQ (l:(List Int))  :(((subR (qq ((nz (0:Int),nz 1))) (qq (rq (madeR (l.take ((if (2:Int)<(l.length:Int) then (2:Int) else (l.length:Int)).toNat)))))).isSome))=true:=by
 obtain ⟨p,ep,hp,f1,f2,c1,c2⟩:=zF l ((if (2:Int)<(l.length:Int) then (2:Int) else (l.length:Int)).toNat) (by split<;>omega)
 have k1:=qq_sz hp (by decide)
 have k2:=fl_sz hp (by decide)
 have k3:=ce_sz hp (by decide)
 have z7:∀a:Int,-60≤a→a≤60→qq (rq (some (a:Rat)))=some (a:Rat):=fun a h1 h2=>qq_sz (zU (k:=7) (by (have e7:(2:Nat) ^ 7=128:=(by decide));omega) (by decide)) (by decide)
 have k4:=z7 p.floor (by omega) (by omega)
 have k5:=z7 (p.floor+1) (by omega) (by omega)
 have k6:=z7 (p.ceil - 1) (by omega) (by omega)
 have k7:=z7 p.ceil (by omega) (by omega)
 have k8:=z7 0 (by omega) (by omega)
 have z0:Sz 7 (((0:Int):Rat)):=zU (by decide) (by decide)
 have hm:=z0.sub hp
 have a1:=zK z0 hp (by decide)
 have a2:=fl_sz hm (by decide)
 have e1:(((0:Int):Rat) - p).floor=-p.ceil:=by
  rw [Rat.ceil_eq_neg_floor_neg,show ((0:Int):Rat) - p=-p by grind,Int.neg_neg]
 have w1:=wr64 (n:=p.floor+1) (by omega)
 have w2:=wr64 (n:=p.ceil - 1) (by omega)
 have w3:=wr64 (n:=0 - -p.ceil) (by omega)
 have c0:∀a b:Rat,cmpO (some a) (some b)=cmpQ a b:=fun _ _=>rfl
 have vo:∀a:Int,vO (some a)=a:=fun _=>rfl
 have oo:∀a:Int,okO (some a)=true:=fun _=>rfl
 have q1:cmpQ (p.floor:Rat) p≤0:=zH.2 (Rat.floor_le p)
 have q2:cmpQ p ((p.floor+1:Int):Rat)<0:=zI.2 (Rat.lt_floor_add_one p)
 have q3:cmpQ ((p.ceil - 1:Int):Rat) p<0:=zI.2 (Rat.lt_ceil_iff.1 (by omega))
 have q4:cmpQ p (p.ceil:Rat)≤0:=zH.2 Rat.le_ceil
 have q5:cmpQ p (p.floor:Rat)=0↔p.floor=p.ceil:=by
  rw [qA]
  constructor
  ·intro h
   rw [h,Rat.floor_intCast,Rat.ceil_intCast]
  ·intro h
   have h1:=Rat.floor_le p
   have h2:=Rat.le_ceil (x:=p)
   rw [← h] at h2
   grind
 try simp only [ep,zaa,k1,k2,k3,k4,k5,k6,k7,k8,a1,a2,e1,w1,w2,w3,c0,vo,oo,Option.isSome_some,Bool.not_true,decide_eq_true_eq,decide_eq_false_iff_not]
 try first | omega | (have q6:(cmpQ p (p.floor:Rat) == 0)=(p.floor == p.ceil):=(by rw [Bool.eq_iff_iff,beq_iff_eq,beq_iff_eq];exact q5);rw [q6];exact beq_self_eq_true _) | (have w4:p.ceil=0 - -p.ceil:=(by omega);rw [← w4];exact beq_self_eq_true _) | (rw [beq_iff_eq];by_cases h:p.floor=p.ceil<;>simp [h,q5]) | (simp;omega)
theorem zgR (l:(List Int))  :((okO (flX (rq (subR (qq ((nz (0:Int),nz 1))) (qq (rq (madeR (l.take ((if (2:Int)<(l.length:Int) then (2:Int) else (l.length:Int)).toNat))))))).1 (rq (subR (qq ((nz (0:Int),nz 1))) (qq (rq (madeR (l.take ((if (2:Int)<(l.length:Int) then (2:Int) else (l.length:Int)).toNat))))))).2)))=true:=by
 obtain ⟨p,ep,hp,f1,f2,c1,c2⟩:=zF l ((if (2:Int)<(l.length:Int) then (2:Int) else (l.length:Int)).toNat) (by split<;>omega)
 have k1:=qq_sz hp (by decide)
 have k2:=fl_sz hp (by decide)
 have k3:=ce_sz hp (by decide)
 have z7:∀a:Int,-60≤a→a≤60→qq (rq (some (a:Rat)))=some (a:Rat):=fun a h1 h2=>qq_sz (zU (k:=7) (by (have e7:(2:Nat) ^ 7=128:=(by decide));omega) (by decide)) (by decide)
 have k4:=z7 p.floor (by omega) (by omega)
 have k5:=z7 (p.floor+1) (by omega) (by omega)
 have k6:=z7 (p.ceil - 1) (by omega) (by omega)
 have k7:=z7 p.ceil (by omega) (by omega)
 have k8:=z7 0 (by omega) (by omega)
 have z0:Sz 7 (((0:Int):Rat)):=zU (by decide) (by decide)
 have hm:=z0.sub hp
 have a1:=zK z0 hp (by decide)
 have a2:=fl_sz hm (by decide)
 have e1:(((0:Int):Rat) - p).floor=-p.ceil:=by
  rw [Rat.ceil_eq_neg_floor_neg,show ((0:Int):Rat) - p=-p by grind,Int.neg_neg]
 have w1:=wr64 (n:=p.floor+1) (by omega)
 have w2:=wr64 (n:=p.ceil - 1) (by omega)
 have w3:=wr64 (n:=0 - -p.ceil) (by omega)
 have c0:∀a b:Rat,cmpO (some a) (some b)=cmpQ a b:=fun _ _=>rfl
 have vo:∀a:Int,vO (some a)=a:=fun _=>rfl
 have oo:∀a:Int,okO (some a)=true:=fun _=>rfl
 have q1:cmpQ (p.floor:Rat) p≤0:=zH.2 (Rat.floor_le p)
 have q2:cmpQ p ((p.floor+1:Int):Rat)<0:=zI.2 (Rat.lt_floor_add_one p)
 have q3:cmpQ ((p.ceil - 1:Int):Rat) p<0:=zI.2 (Rat.lt_ceil_iff.1 (by omega))
 have q4:cmpQ p (p.ceil:Rat)≤0:=zH.2 Rat.le_ceil
 have q5:cmpQ p (p.floor:Rat)=0↔p.floor=p.ceil:=by
  rw [qA]
  constructor
  ·intro h
   rw [h,Rat.floor_intCast,Rat.ceil_intCast]
  ·intro h
   have h1:=Rat.floor_le p
   have h2:=Rat.le_ceil (x:=p)
   rw [← h] at h2
   grind
 try simp only [ep,zaa,k1,k2,k3,k4,k5,k6,k7,k8,a1,a2,e1,w1,w2,w3,c0,vo,oo,Option.isSome_some,Bool.not_true,decide_eq_true_eq,decide_eq_false_iff_not]
 try first | omega | (have q6:(cmpQ p (p.floor:Rat) == 0)=(p.floor == p.ceil):=(by rw [Bool.eq_iff_iff,beq_iff_eq,beq_iff_eq];exact q5);rw [q6];exact beq_self_eq_true _) | (have w4:p.ceil=0 - -p.ceil:=(by omega);rw [← w4];exact beq_self_eq_true _) | (rw [beq_iff_eq];by_cases h:p.floor=p.ceil<;>simp [h,q5]) | (simp;omega)
theorem zgS (l:(List Int))  :((((vO (ceX (rq (madeR (l.take ((if (2:Int)<(l.length:Int) then (2:Int) else (l.length:Int)).toNat)))).1 (rq (madeR (l.take ((if (2:Int)<(l.length:Int) then (2:Int) else (l.length:Int)).toNat)))).2)) == (IntKind.i64.wrap (0 - (vO (flX (rq (subR (qq ((nz (0:Int),nz 1))) (qq (rq (madeR (l.take ((if (2:Int)<(l.length:Int) then (2:Int) else (l.length:Int)).toNat))))))).1 (rq (subR (qq ((nz (0:Int),nz 1))) (qq (rq (madeR (l.take ((if (2:Int)<(l.length:Int) then (2:Int) else (l.length:Int)).toNat))))))).2)))))))=true:=by
 obtain ⟨p,ep,hp,f1,f2,c1,c2⟩:=zF l ((if (2:Int)<(l.length:Int) then (2:Int) else (l.length:Int)).toNat) (by split<;>omega)
 have k1:=qq_sz hp (by decide)
 have k2:=fl_sz hp (by decide)
 have k3:=ce_sz hp (by decide)
 have z7:∀a:Int,-60≤a→a≤60→qq (rq (some (a:Rat)))=some (a:Rat):=fun a h1 h2=>qq_sz (zU (k:=7) (by (have e7:(2:Nat) ^ 7=128:=(by decide));omega) (by decide)) (by decide)
 have k4:=z7 p.floor (by omega) (by omega)
 have k5:=z7 (p.floor+1) (by omega) (by omega)
 have k6:=z7 (p.ceil - 1) (by omega) (by omega)
 have k7:=z7 p.ceil (by omega) (by omega)
 have k8:=z7 0 (by omega) (by omega)
 have z0:Sz 7 (((0:Int):Rat)):=zU (by decide) (by decide)
 have hm:=z0.sub hp
 have a1:=zK z0 hp (by decide)
 have a2:=fl_sz hm (by decide)
 have e1:(((0:Int):Rat) - p).floor=-p.ceil:=by
  rw [Rat.ceil_eq_neg_floor_neg,show ((0:Int):Rat) - p=-p by grind,Int.neg_neg]
 have w1:=wr64 (n:=p.floor+1) (by omega)
 have w2:=wr64 (n:=p.ceil - 1) (by omega)
 have w3:=wr64 (n:=0 - -p.ceil) (by omega)
 have c0:∀a b:Rat,cmpO (some a) (some b)=cmpQ a b:=fun _ _=>rfl
 have vo:∀a:Int,vO (some a)=a:=fun _=>rfl
 have oo:∀a:Int,okO (some a)=true:=fun _=>rfl
 have q1:cmpQ (p.floor:Rat) p≤0:=zH.2 (Rat.floor_le p)
 have q2:cmpQ p ((p.floor+1:Int):Rat)<0:=zI.2 (Rat.lt_floor_add_one p)
 have q3:cmpQ ((p.ceil - 1:Int):Rat) p<0:=zI.2 (Rat.lt_ceil_iff.1 (by omega))
 have q4:cmpQ p (p.ceil:Rat)≤0:=zH.2 Rat.le_ceil
 have q5:cmpQ p (p.floor:Rat)=0↔p.floor=p.ceil:=by
  rw [qA]
  constructor
  ·intro h
   rw [h,Rat.floor_intCast,Rat.ceil_intCast]
  ·intro h
   have h1:=Rat.floor_le p
   have h2:=Rat.le_ceil (x:=p)
   rw [← h] at h2
   grind
 try simp only [ep,zaa,k1,k2,k3,k4,k5,k6,k7,k8,a1,a2,e1,w1,w2,w3,c0,vo,oo,Option.isSome_some,Bool.not_true,decide_eq_true_eq,decide_eq_false_iff_not]
 try first | omega | (have q6:(cmpQ p (p.floor:Rat) == 0)=(p.floor == p.ceil):=(by rw [Bool.eq_iff_iff,beq_iff_eq,beq_iff_eq];exact q5);rw [q6];exact beq_self_eq_true _) | (have w4:p.ceil=0 - -p.ceil:=(by omega);rw [← w4];exact beq_self_eq_true _) | (rw [beq_iff_eq];by_cases h:p.floor=p.ceil<;>simp [h,q5]) | (simp;omega)
theorem zgT (l:(List Int))  :((((vO (flX (rq (madeR (l.take ((if (2:Int)<(l.length:Int) then (2:Int) else (l.length:Int)).toNat)))).1 (rq (madeR (l.take ((if (2:Int)<(l.length:Int) then (2:Int) else (l.length:Int)).toNat)))).2)) == (vO (ceX (rq (madeR (l.take ((if (2:Int)<(l.length:Int) then (2:Int) else (l.length:Int)).toNat)))).1 (rq (madeR (l.take ((if (2:Int)<(l.length:Int) then (2:Int) else (l.length:Int)).toNat)))).2)))) == (((cmpO (qq (rq (madeR (l.take ((if (2:Int)<(l.length:Int) then (2:Int) else (l.length:Int)).toNat))))) (qq ((nz (vO (flX (rq (madeR (l.take ((if (2:Int)<(l.length:Int) then (2:Int) else (l.length:Int)).toNat)))).1 (rq (madeR (l.take ((if (2:Int)<(l.length:Int) then (2:Int) else (l.length:Int)).toNat)))).2)),nz 1)))) == (0:Int))))=true:=by
 obtain ⟨p,ep,hp,f1,f2,c1,c2⟩:=zF l ((if (2:Int)<(l.length:Int) then (2:Int) else (l.length:Int)).toNat) (by split<;>omega)
 have k1:=qq_sz hp (by decide)
 have k2:=fl_sz hp (by decide)
 have k3:=ce_sz hp (by decide)
 have z7:∀a:Int,-60≤a→a≤60→qq (rq (some (a:Rat)))=some (a:Rat):=fun a h1 h2=>qq_sz (zU (k:=7) (by (have e7:(2:Nat) ^ 7=128:=(by decide));omega) (by decide)) (by decide)
 have k4:=z7 p.floor (by omega) (by omega)
 have k5:=z7 (p.floor+1) (by omega) (by omega)
 have k6:=z7 (p.ceil - 1) (by omega) (by omega)
 have k7:=z7 p.ceil (by omega) (by omega)
 have k8:=z7 0 (by omega) (by omega)
 have z0:Sz 7 (((0:Int):Rat)):=zU (by decide) (by decide)
 have hm:=z0.sub hp
 have a1:=zK z0 hp (by decide)
 have a2:=fl_sz hm (by decide)
 have e1:(((0:Int):Rat) - p).floor=-p.ceil:=by
  rw [Rat.ceil_eq_neg_floor_neg,show ((0:Int):Rat) - p=-p by grind,Int.neg_neg]
 have w1:=wr64 (n:=p.floor+1) (by omega)
 have w2:=wr64 (n:=p.ceil - 1) (by omega)
 have w3:=wr64 (n:=0 - -p.ceil) (by omega)
 have c0:∀a b:Rat,cmpO (some a) (some b)=cmpQ a b:=fun _ _=>rfl
 have vo:∀a:Int,vO (some a)=a:=fun _=>rfl
 have oo:∀a:Int,okO (some a)=true:=fun _=>rfl
 have q1:cmpQ (p.floor:Rat) p≤0:=zH.2 (Rat.floor_le p)
 have q2:cmpQ p ((p.floor+1:Int):Rat)<0:=zI.2 (Rat.lt_floor_add_one p)
 have q3:cmpQ ((p.ceil - 1:Int):Rat) p<0:=zI.2 (Rat.lt_ceil_iff.1 (by omega))
 have q4:cmpQ p (p.ceil:Rat)≤0:=zH.2 Rat.le_ceil
 have q5:cmpQ p (p.floor:Rat)=0↔p.floor=p.ceil:=by
  rw [qA]
  constructor
  ·intro h
   rw [h,Rat.floor_intCast,Rat.ceil_intCast]
  ·intro h
   have h1:=Rat.floor_le p
   have h2:=Rat.le_ceil (x:=p)
   rw [← h] at h2
   grind
 try simp only [ep,zaa,k1,k2,k3,k4,k5,k6,k7,k8,a1,a2,e1,w1,w2,w3,c0,vo,oo,Option.isSome_some,Bool.not_true,decide_eq_true_eq,decide_eq_false_iff_not]
 try first | omega | (have q6:(cmpQ p (p.floor:Rat) == 0)=(p.floor == p.ceil):=(by rw [Bool.eq_iff_iff,beq_iff_eq,beq_iff_eq];exact q5);rw [q6];exact beq_self_eq_true _) | (have w4:p.ceil=0 - -p.ceil:=(by omega);rw [← w4];exact beq_self_eq_true _) | (rw [beq_iff_eq];by_cases h:p.floor=p.ceil<;>simp [h,q5]) | (simp;omega)
theorem zmX {w0:World} (hM:∀W,Below w0.heap.size w0 W→MaxT W) (hTS:∀W,Below w0.heap.size w0 W→PowT w0.heap.size W∧SynT w0.heap.size W) (l:(List Int)) :Fun (KN w0) Tryz.prog 9 [.o (.c (pLs cI l))] (.o (.c (pV (.bool true)))):=by
 exact ziU l hM hTS _ _ _ ((if (2:Int)<(l.length:Int) then (2:Int) else (l.length:Int)).toNat) _ _ _ _ _ _ _ _ _ _ _ _ _ _ _ _ _ _ _ _ _ _ _ _ _ _ _ _ _ _ _ _ _ _ _ _ _ _ rfl rfl rfl rfl rfl rfl rfl rfl rfl rfl rfl rfl rfl rfl rfl rfl rfl rfl rfl rfl rfl rfl rfl rfl rfl rfl rfl rfl rfl rfl rfl rfl rfl rfl rfl rfl rfl rfl rfl rfl (zgT l  ) (ziM l  ) (ziN l  ) (ziO l  ) (ziP l  ) (ziQ l  ) (ziR l  ) (ziS l  ) (ziT l  ) (zdU l  ) (zdV l  ) (zgD l  ) (zgE l  ) (zgF l  ) (zgG l  ) (zgH l  ) (zgI l  ) (zgJ l  ) (zgK l  ) (zgL l  ) (zgM l  ) (zgN l  ) (zgO l  ) (zgP l  ) (zgQ l  ) (zgR l  ) (zgS l  ) (zdU l  ) (zdV l  )
end Go.Proofs.YtccjiodohphgnaaGreatDoor
namespace Go.Proofs.YtccjiodohphgnaaGreatDoor
open Go.ChangeShapes Go.WideShapes Go.ChangeAt Go.RowKit Go.Joins Go.Deep
theorem zd3 (os:Os) (started:os.Started) (H:Type) (enc:TypeId×Value→H) :
  ReturnsInHanded {} Tryz.checked os 9 .any (fun w args=>(Rows.ratioRoundsSpec.pre enc Tryz.prog Tryz.f9 [] false w args∧laidMetH Tryz.prog laidL w)∧sizedMet enc Tryz.prog Tryz.f9 (OpenSpec.ofChange Rows.ratioRoundsSpec) false w args)
   (Rows.ratioRoundsSpec.post enc Tryz.prog Tryz.f9 false true false false):=by
 refine zaM (C:=Tryz.checked) (X:=fun w _=>laidMetH Tryz.prog laidL w) (fun _ _ _ hh h=>h.of_heap hh) Tryz.own started (by kernel_rfl) Tryz.func9
  (ChangeSpec.witness_shaped (enc:=enc) (C:=Tryz.checked) (os:=os) (X:=fun w _=>laidMetH Tryz.prog laidL w) false (World.doorLaid Tryz.prog 400 os) #[.slice none 0 0] 8 rfl (World.shaped_of_RefB (by kernel_rfl) (by kernel_rfl)) (by kernel_rfl) (by kernel_rfl) (by kernel_rfl) (zck os _)) ?_
 intro W base args ds gs before hval0 hW hL hsh
 have hval:∀(j:Nat) t v,Tryz.f9.params[j]?=some t→args[j]?=some v→Value.okWide Tryz.prog W .any base t v:=hval0
 have hW':=hW
 obtain ⟨p,q,hA0,hV,rfl,hfz,hnd⟩:=hW
 have hA:DataW.TrodAll enc Tryz.prog W 0 (fun _=>true) true Tryz.f9.params.toList args.toList ds p:=hA0
 rw [Tryz.params9] at hA hval
 obtain ⟨v0,d0,rfl,rfl,h0⟩:=trodAll_one hA
 obtain ⟨x0,s0⟩:=zpa (hval 0 22 v0 rfl rfl) h0
 refine (zdv (args:=#[v0]) (zmX (zcq hsh) (zcp hL) x0 ) ⟨s0,trivial⟩).mono fun e W' ⟨he,hb⟩=>?_
 subst he
 exact ⟨_,rfl,zaK rfl Tryz.laidOut (by decide +kernel) 4 (by kernel_rfl) Tryz.underlying4 (fun d hd=>by match d,hd with | [_],_=>rfl) hW' hb⟩
theorem zeF:Rows.RatioRoundsSaid:=
 OpenClaim.holds_of_wide 9 Tryz.f9 rfl rfl rfl rfl rfl rfl rfl ⟨rfl,rfl,rfl,rfl,rfl⟩ rfl rfl rfl rfl rfl (by kernel_rfl) Tryz.func9 (by kernel_rfl)
  (of_decide_eq_true (by kernel_rfl)) (by unfold Func.isWrapper;rw [if_neg (of_decide_eq_false (by kernel_rfl))];exact ⟨rfl,rfl⟩)
  (fun os started H enc _=>zd3 os started H enc)
theorem ratioRounds_card:Rows.RatioRoundsCardSaid:=
 Claim7.holds_tied_plain_at .later [] [.data, .data, .data, .sentinel, .sentinel] true (true, "23681dedaca0e9c3ad04b644738b2c5c66df0499f44a887a8592b9d18a9871d5") true
  zeF (fun _ h=>by cases h) (by kernel_rfl) (fun _ h=>by cases h) ratioRounds_row_tie rfl ⟨rfl,rfl⟩ (by kernel_rfl) rfl
  (fun f fn hf hfn=>by
   obtain rfl : f = 9 := Option.some.inj ((show Tryz.prog.funcNamed "collet/colletlaw03.RatioRounds" = some 9 by kernel_rfl).symm.trans hf) |>.symm
   obtain rfl:fn=Tryz.f9:=(Option.some.inj (Tryz.func9.symm.trans hfn)).symm
   exact ⟨by kernel_rfl,fun j t ht=>by
    rw [Tryz.params9] at ht
    have hm:t∈[22]:=by simpa using Array.mem_of_getElem? ht
    have hall:([22].all fun u=>!Tryz.prog.wantsStandIn u)=true:=by kernel_rfl
    exact (show Tryz.prog.wantsStandIn t=false by simpa using List.all_eq_true.1 hall t hm)⟩)
  (by kernel_rfl)
end Go.Proofs.YtccjiodohphgnaaGreatDoor
