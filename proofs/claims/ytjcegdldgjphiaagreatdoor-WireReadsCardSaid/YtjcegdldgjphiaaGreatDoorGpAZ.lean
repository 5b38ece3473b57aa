/-
  Merged: WrZr, WrZb.
-/
import Derived.Test.YtjcegdldgjphiaaGreatDoorGpAY
set_option linter.unusedSimpArgs false
set_option linter.unusedVariables false
set_option maxRecDepth 100000
set_option maxHeartbeats 8000000
namespace Go.Proofs.YtjcegdldgjphiaaGreatDoor
open Go.RowKit Go.Shelf
def cS (x:List UInt8):List Pred:=[pS x]
section
variable {K:Kit} {P:Program} {F:Fact}
theorem zaP (x:List UInt8):FineAll K (cS x):=⟨zc,trivial⟩
theorem zvj {S T E:TypeId} {x o:Lf} {l:List UInt8} (hS:P.underlying S=some (.slice E)) (hE:P.underlying E=some (.int .u8)) (hT:P.underlying T=some .string) (hx:Says F x (pLs cB l)) (ho:Gives F o (.string ⟨l.toArray⟩)):Ent.sound K P F (.op (.cv S T) [LF x] [] (LF o)):=by
 intro β W vs hs _ _
 match vs,hs with
 | [v],⟨h1,_⟩ =>
  refine ⟨.string ⟨l.toArray⟩,?_,(ho β _ W).2 rfl⟩
  show (convert S T v).run P W=_
  rcases (hx β v W).1 h1 with ⟨⟨A,c,rfl⟩,h0,hn⟩ | ⟨q,p,c,U,cs,fz,rfl,hD,hh,hc,hnc⟩
  ·have e:l=[]:=List.eq_nil_of_length_eq_zero (by omega)
   subst e
   cases A with
   | none=>simp [convert,run_underlying hS,run_underlying hE,run_underlying hT,Conv.bytesToString];rfl
   | some a=>simp [convert,run_underlying hS,run_underlying hE,run_underlying hT,Conv.bytesToString,loadCells,loadCellsFrom];rfl
  ·have hb:=zcd (l:=l) hc
   refine run_convert_bytes_back W S T E ⟨q,p,none⟩ c l hS hE hT fun j hj=>?_
   rw [show (⟨q,p,none⟩:Addr).add j=⟨q,p+j,none⟩ from zbr ..,zao hh]
   have h2:((cs.toList.drop p).take (l.flatMap cB).length)[j]?=some (.int .u8 (l[j].toNat:Int)):=by rw [hb];simp [hj]
   rw [List.getElem?_take,zbR zc9,Nat.mul_one,if_pos hj,List.getElem?_drop] at h2
   simpa using h2
 | [],h=>exact h.elim
 | _::_::_,h=>exact h.2.elim
end
theorem zbC (y:RS):rleft y=leftN (rst y):=rfl
theorem zdw (y:RS):bdO (rst y)=y.2.2:=by
 cases hw:y.2.2 with
 | true=>rw [zbp hw];rfl
 | false=>rw [zbi hw];rfl
structure wd_in_T where
 k:Int
 z:St
 y:RS
def qv:List Atom:=(.sl 0 (yh 0)::.sl 3 (yh 11)::.sl 5 (.o (.c (.p 800 0)))::.sl 9 (.o (.c (.k (.bool true))))::.sl 10 (yh 10)::.sl 12 (yh 20)::.sl 13 (.o (.c (.p 5005 0)))::.sl 14 (.o (.c (.p 5007 0)))::.sl 15 (yh 26)::.sl 43 (yh 0)::.sl 44 (yh 10)::.sl 45 (yh 12)::.sl 46 (.o (.g [.h 1,.h 2,.h 3,.h 4,.h 5,.h 6,.h 7,.h 8,.h 9]))::.sl 47 (yh 13)::.sl 48 (yh 0)::.sl 49 (yh 14)::.sl 50 (yh 15)::.sl 51 (yh 16)::.sl 52 (yh 17)::.sl 53 (yh 18)::.sl 54 (yh 19)::.sl 55 (yh 20)::.sl 56 (yh 20)::.sl 57 (.o (.c (.p 5005 0)))::.sl 58 (yh 20)::.sl 59 (.o (.c (.p 5007 0)))::.sl 60 (.o (.c (.p 5005 0)))::.sl 61 (.o (.c (.k (.bool false))))::.bx 800 27 [.h 1,.h 2,.h 3,.h 4,.h 5,.h 6,.h 7,.h 8,.h 9]::.bx 5005 62 [.h 27,.h 28]::.bx 5007 79 [.h 29,.h 30,.h 31]::[]:List Atom)
def zbq:LoopS:=⟨13,(.sl 0 (yh 0)::.sl 3 (yh 11)::.sl 5 (.o (.c (.p 800 0)))::.sl 9 (.o (.c (.k (.bool true))))::.sl 10 (yh 10)::.sl 12 (yh 20)::.sl 13 (.o (.c (.p 5005 0)))::.sl 14 (.o (.c (.p 5007 0)))::.sl 15 (.o (.c (.k (.int .i64 0))))::.sl 43 (yh 0)::.sl 44 (yh 10)::.sl 45 (yh 12)::.sl 46 (.o (.g [.h 1,.h 2,.h 3,.h 4,.h 5,.h 6,.h 7,.h 8,.h 9]))::.sl 47 (yh 13)::.sl 48 (yh 0)::.sl 49 (yh 14)::.sl 50 (yh 15)::.sl 51 (yh 16)::.sl 52 (yh 17)::.sl 53 (yh 18)::.sl 54 (yh 19)::.sl 55 (yh 20)::.sl 56 (yh 20)::.sl 57 (.o (.c (.p 5005 0)))::.sl 58 (yh 20)::.sl 59 (.o (.c (.p 5007 0)))::.sl 60 (.o (.c (.p 5005 0)))::.sl 61 (.o (.c (.k (.bool false))))::.bx 800 27 [.h 1,.h 2,.h 3,.h 4,.h 5,.h 6,.h 7,.h 8,.h 9]::.bx 5005 62 [.h 21,.h 22]::.bx 5007 79 [.h 23,.h 24,.h 25]::[]:List Atom),(.x 2),(.sl 0 (yh 0)::.sl 3 (yh 11)::.sl 5 (.o (.c (.p 800 0)))::.sl 9 (.o (.c (.k (.bool true))))::.sl 10 (yh 10)::.sl 12 (yh 20)::.sl 13 (.o (.c (.p 5005 0)))::.sl 14 (.o (.c (.p 5007 0)))::.sl 43 (yh 0)::.sl 44 (yh 10)::.sl 45 (yh 12)::.sl 46 (.o (.g [.h 1,.h 2,.h 3,.h 4,.h 5,.h 6,.h 7,.h 8,.h 9]))::.sl 47 (yh 13)::.sl 48 (yh 0)::.sl 49 (yh 14)::.sl 50 (yh 15)::.sl 51 (yh 16)::.sl 52 (yh 17)::.sl 53 (yh 18)::.sl 54 (yh 19)::.sl 55 (yh 20)::.sl 56 (yh 20)::.sl 57 (.o (.c (.p 5005 0)))::.sl 58 (yh 20)::.sl 59 (.o (.c (.p 5007 0)))::.sl 60 (.o (.c (.p 5005 0)))::.sl 61 (.o (.c (.k (.bool false))))::.bx 800 27 [.h 1,.h 2,.h 3,.h 4,.h 5,.h 6,.h 7,.h 8,.h 9]::[]:List Atom)⟩
abbrev zzq:List (Nat×Ent):=(10018,.fb 18 true)::(1020002,.op (.len [43] 3) [yh 11] [] (yh 32))::(1020003,.bin .leq 3 (yh 26) (yh 32) (yh 33))::[]
abbrev zzr:List (Nat×Ent):=(10033,.fb 33 true)::(1020006,.bin .lss 3 (yh 26) (LF (.k (.int .i64 10))) (yh 34))::zzq
abbrev zzs:List (Nat×Ent):=(10034,.fb 34 true)::(1020012,.bin .gtr 3 (yh 26) (LF (.k (.int .i64 0))) (yh 35))::zzr
abbrev zAd:List (Nat×Ent):=(10035,.fb 35 true)::(1020015,.bin .sub 3 (yh 26) (LF (.k (.int .i64 1))) (yh 36))::(1020016,.op (.ia 43) [yh 11,yh 36] [] (yh 37))::(1020017,.op (.ld 5) [yh 37] [] (yh 38))::(1020022,.call ⟨20,[.o (.c (.p 5005 0)),.o (.c (.p 5007 0)),yh 38],[.bx 5005 62 [.h 27,.h 28],.bx 5007 79 [.h 29,.h 30,.h 31]],yh 39,[.bx 5005 62 [.h 40,.h 41],.bx 5007 79 [.h 42,.h 43,.h 44]]⟩)::(1020023,.un .not (yh 39) (yh 45))::zzs
abbrev zAe:List (Nat×Ent):=(10045,.fb 45 false)::(1020026,.call ⟨21,[.o (.c (.p 5005 0))],[.bx 5005 62 [.h 40,.h 41]],yh 46,[.bx 5005 62 [.h 40,.h 41]]⟩)::(1020028,.call ⟨22,[.o (.c (.p 5007 0))],[.bx 5007 79 [.h 42,.h 43,.h 44]],yh 47,[.bx 5007 79 [.h 42,.h 43,.h 44]]⟩)::(1020029,.bin .neq 3 (yh 46) (yh 47) (yh 48))::zAd
abbrev zAf:List (Nat×Ent):=(10048,.fb 48 false)::(1020033,.call ⟨23,[.o (.c (.p 5005 0))],[.bx 5005 62 [.h 40,.h 41]],yh 49,[.bx 5005 62 [.h 40,.h 41]]⟩)::(1020035,.call ⟨24,[.o (.c (.p 5007 0))],[.bx 5007 79 [.h 42,.h 43,.h 44]],yh 50,[.bx 5007 79 [.h 42,.h 43,.h 44]]⟩)::(1020036,.bin .neq 4 (yh 49) (yh 50) (yh 51))::zAe
abbrev zAg:List (Nat×Ent):=(10051,.fb 51 false)::(1020039,.bin .add 3 (yh 26) (LF (.k (.int .i64 1))) (yh 52))::zAf
abbrev zAh:List (Nat×Ent):=(10035,.fb 35 false)::(1020016,.call ⟨20,[.o (.c (.p 5005 0)),.o (.c (.p 5007 0)),yh 1],[.bx 5005 62 [.h 27,.h 28],.bx 5007 79 [.h 29,.h 30,.h 31]],yh 36,[.bx 5005 62 [.h 37,.h 38],.bx 5007 79 [.h 39,.h 40,.h 41]]⟩)::(1020017,.un .not (yh 36) (yh 42))::zzs
abbrev zAi:List (Nat×Ent):=(10042,.fb 42 false)::(1020020,.call ⟨21,[.o (.c (.p 5005 0))],[.bx 5005 62 [.h 37,.h 38]],yh 43,[.bx 5005 62 [.h 37,.h 38]]⟩)::(1020022,.call ⟨22,[.o (.c (.p 5007 0))],[.bx 5007 79 [.h 39,.h 40,.h 41]],yh 44,[.bx 5007 79 [.h 39,.h 40,.h 41]]⟩)::(1020023,.bin .neq 3 (yh 43) (yh 44) (yh 45))::zAh
abbrev zzT:List (Nat×Ent):=(10045,.fb 45 false)::(1020027,.call ⟨23,[.o (.c (.p 5005 0))],[.bx 5005 62 [.h 37,.h 38]],yh 46,[.bx 5005 62 [.h 37,.h 38]]⟩)::(1020029,.call ⟨24,[.o (.c (.p 5007 0))],[.bx 5007 79 [.h 39,.h 40,.h 41]],yh 47,[.bx 5007 79 [.h 39,.h 40,.h 41]]⟩)::(1020030,.bin .neq 4 (yh 46) (yh 47) (yh 48))::zAi
abbrev zzU:List (Nat×Ent):=(10048,.fb 48 false)::(1020033,.bin .add 3 (yh 26) (LF (.k (.int .i64 1))) (yh 49))::zzT
abbrev zzV:List (Nat×Ent):=(10034,.fb 34 false)::zzr
abbrev zzW:List (Nat×Ent):=(10033,.fb 33 false)::zzq
theorem zsq {w0:World} (hM:LM w0) (hTS:LS w0) (s:(List UInt8)) (v_:Val) (yb:(List UInt8)) (l:(List UInt8)) (v1:(List UInt8)) (v2:(List UInt8)) (v4:(List UInt8)) (v6:(List (List UInt8))) (v7:Int) (i:Int) (v501:Bool) (n503:Nat) (x504:(List UInt8)) (v507:St) (v508:RS) (h502:v501=true) {F:Fact} (u0:F.c 0=pS s) (u1:F.c 1=pV (.int .u8 v_.1)) (u2:F.c 2=pI v_.2.1) (u3:F.c 3=pS v_.2.2.1) (u4:F.c 4=pLs cI v_.2.2.2.1) (u5:F.c 5=pI v_.2.2.2.2.1.1) (u6:F.c 6=pI v_.2.2.2.2.1.2.1) (u7:F.c 7=pI v_.2.2.2.2.1.2.2) (u8:F.c 8=pLs cPl v_.2.2.2.2.2.1) (u9:F.c 9=pLs cI v_.2.2.2.2.2.2) (u10:F.c 10=pLs cB yb) (u11:F.c 11=pLs cB l) (u12:F.c 12=pS v1) (u13:F.c 13=pS v2) (u14:F.c 14=pS v4) (u15:F.c 15=pLs cS v6) (u16:F.c 16=pI v7) (u17:F.c 17=pI i) (u18:F.c 18=pB v501) (u19:F.c 19=pP (cS x504)) (u20:F.c 20=pS x504) (u21:F.c 21=pS (lfO v507)) (u22:F.c 22=pB (bdO v507)) (u23:F.c 23=pS v508.1) (u24:F.c 24=pI (v508.2.1:Int)) (u25:F.c 25=pB v508.2.2) (R:Frm) (hR:R.pm=⟨ntOf Tryz.prog 4,[800],[]⟩) (hlb:l.length<9223372036854775808) (hz0:rst v508=v507) (hx0:OkR v508) (hl0:v508.1.length≤1000):zj (KN w0) Tryz.prog F R zbq (lp Tryz.prog 4 1):=by
 refine zG (T:=wd_in_T) (fun t=>FL [pS s,pV (.int .u8 v_.1),pI v_.2.1,pS v_.2.2.1,pLs cI v_.2.2.2.1,pI v_.2.2.2.2.1.1,pI v_.2.2.2.2.1.2.1,pI v_.2.2.2.2.1.2.2,pLs cPl v_.2.2.2.2.2.1,pLs cI v_.2.2.2.2.2.2,pLs cB yb,pLs cB l,pS v1,pS v2,pS v4,pLs cS v6,pI v7,pI i,pB v501,pP (cS x504),pS x504,pS (lfO v507),pB (bdO v507),pS v508.1,pI (v508.2.1:Int),pB v508.2.2,pI t.k,pS (lfO t.z),pB (bdO t.z),pS t.y.1,pI (t.y.2.1:Int),pB t.y.2.2] []) (fun ⟨k,z,y⟩=>∃n:Nat,k=(n:Int)∧n≤10∧rst y=z∧OkR y∧y.1.length≤1000) (fun ⟨k,z,y⟩=>(10 - k).toNat) { k:=(0:Int),z:=v507,y:=v508 } qv ⟨0,rfl,by decide,hz0,hx0,hl0⟩ (LZ ⟨z_c (LU u0),z_c (LU u11),z_c yy,z_c yy,z_c (LU u10),z_c (LU u20),z_c yy,z_c yy,z_c yy,z_c (LU u0),z_c (LU u10),z_c (LU u12),z_g ⟨LU u1,LU u2,LU u3,LU u4,LU u5,LU u6,LU u7,LU u8,LU u9,trivial⟩,z_c (LU u13),z_c (LU u0),z_c (LU u14),z_c (LU u15),z_c (LU u16),z_c (LU u17),z_c (LU u18),z_c (LU u19),z_c (LU u20),z_c (LU u20),z_c yy,z_c (LU u20),z_c yy,z_c yy,z_c yy,z_b ⟨LU u1,LU u2,LU u3,LU u4,LU u5,LU u6,LU u7,LU u8,LU u9,trivial⟩,z_b ⟨LU u21,LU u22,trivial⟩,z_b ⟨LU u23,LU u24,LU u25,trivial⟩,trivial⟩) rfl fun t hJ=>?_
 obtain ⟨k,z,y⟩:=t
 dsimp only at hJ
 obtain ⟨n,hk,hn,hst,hx,hlx⟩:=hJ
 obtain ⟨v1001,e1001⟩:=LX ((l.length:Int))
 obtain ⟨v1002,e1002⟩:=LX (decide (k≤v1001))
 let A1:List Pred→List Pred:=fun t=>pS s::pV (.int .u8 v_.1)::pI v_.2.1::pS v_.2.2.1::pLs cI v_.2.2.2.1::pI v_.2.2.2.2.1.1::pI v_.2.2.2.2.1.2.1::pI v_.2.2.2.2.1.2.2::pLs cPl v_.2.2.2.2.2.1::pLs cI v_.2.2.2.2.2.2::pLs cB yb::pLs cB l::pS v1::pS v2::pS v4::pLs cS v6::pI v7::pI i::pB v501::pP (cS x504)::pS x504::pS (lfO v507)::pB (bdO v507)::pS v508.1::pI (v508.2.1:Int)::pB v508.2.2::pI k::pS (lfO z)::pB (bdO z)::pS y.1::pI (y.2.1:Int)::pB y.2.2::pI v1001::pB v1002::t
 have f1:LA (KN w0) A1:=fun t h=>⟨zc,zc,zc,zc,(zi zl),zc,zc,zc,(zi zo),(zi zl),(zi (zE rfl)),(zi (zE rfl)),zc,zc,zc,(zi zaP),zc,zc,zc,(qw (zaP _)),zc,zc,zc,zc,zc,zc,zc,zc,zc,zc,zc,zc,zc,zc,h⟩
 have T1:LT (KN w0) Tryz.prog A1 zzq:=fun t=>⟨e_fbv h502,zH (E:=5) (by kernel_rfl) (zd rfl) (za (by rw [e1001];rfl)),e_bin (za rfl) (za rfl) (za rfl) (r_cmp (LO e1002)),trivial⟩
 cases h1003:v1002 with
 | true =>
  obtain ⟨v1004,e1004⟩:=LX (decide (k<(10:Int)))
  let A2:=fun t=>A1 (pB v1004::t)
  have f2:LA (KN w0) A2:=fun t h=>f1 _ ⟨zc,h⟩
  have T2:LT (KN w0) Tryz.prog A2 zzr:=fun t=>⟨e_fbv h1003,e_bin (za rfl) ze (za rfl) (r_cmp (LO e1004)),T1 _⟩
  cases h1005:v1004 with
  | true =>
   obtain ⟨v1006,e1006⟩:=LX (decide (k > (0:Int)))
   let A3:=fun t=>A2 (pB v1006::t)
   have f3:LA (KN w0) A3:=fun t h=>f2 _ ⟨zc,h⟩
   have T3:LT (KN w0) Tryz.prog A3 zzs:=fun t=>⟨e_fbv h1005,e_bin (za rfl) ze (za rfl) (r_cmp (LO e1006)),T2 _⟩
   cases h1007:v1006 with
   | true =>
    obtain ⟨v1008,e1008⟩:=LX (IntKind.i64.wrap (k - (1:Int)))
    obtain ⟨n1009,x1010,s1011,s1012⟩:∃(n1009:Nat) (x1010:UInt8),v1008=(n1009:Int)∧l[n1009]?=some x1010:=by (have dh1003:=LD e1002 h1003;have dh1005:=LD e1004 h1005;have dh1007:=LD e1006 h1007;have hz:=e1001;have hlt:n - 1<l.length:=(by omega);exact ⟨n - 1,l[n - 1],by rw [← e1008,hk,wri (by omega)];omega,List.getElem?_eq_getElem hlt⟩)
    obtain ⟨v1013,e1013⟩:=LX (true)
    obtain ⟨v1014,e1014⟩:=LX (callS (((x1010.toNat:Int):Int).tmod 6) z)
    obtain ⟨v1015,e1015⟩:=LX (callR (((x1010.toNat:Int):Int).tmod 6) y)
    have s1016:rst y=z:=by exact hst
    have s1017:OkR y:=by exact hx
    have s1018:y.1.length≤1000:=by exact hlx
    obtain ⟨v1019,e1019⟩:=LX (!v1013)
    let A4:=fun t=>A3 (pI v1008::pP (cB x1010)::pV (.int .u8 (x1010.toNat:Int))::pB v1013::pS (lfO v1014)::pB (bdO v1014)::pS v1015.1::pI (v1015.2.1:Int)::pB v1015.2.2::pB v1019::t)
    have f4:LA (KN w0) A4:=fun t h=>f3 _ ⟨zc,(qw ((zE rfl) _)),zc,zc,zc,zc,zc,zc,zc,zc,h⟩
    have T4:LT (KN w0) Tryz.prog A4 zAd:=fun t=>⟨e_fbv h1007,e_bin (za rfl) ze (za rfl) (r_ar (LO e1008)),e_iaL (E:=5) (z:=1) zc9 (by kernel_rfl) (by kernel_rfl) (zd rfl) (za rfl) s1011 s1012 (zd rfl),e_ldP (by kernel_rfl) (zd rfl) (zd rfl),b_con (pan:=false) (zpX hM hTS (x1010.toNat:Int) z y v1013 v1014 v1015 e1013 e1014 e1015 s1016 s1017 s1018),e_un (za rfl) (za rfl) (fun W=>by rw [← e1019];exact r_not W),T3 _⟩
    cases h1020:v1019 with
    | true =>
     exfalso
     have q0:rst v1015=v1014:=by rw [← e1015,← e1014,zbb (((x1010.toNat:Int):Int).tmod 6) hx,hst]
     have q1:=zbC v1015
     have q2:=zdw v1015
     rw [q0] at q1 q2
     clear hst hx hlx
     simp_all
    | false =>
     obtain ⟨v1021,e1021⟩:=LX ((leftN v1014:Int))
     obtain ⟨v1022,e1022⟩:=LX ((rleft v1015:Int))
     have s1023:okRS v1015:=by (rw [← e1015];exact (zak (((x1010.toNat:Int):Int).tmod 6) hx).1.1)
     have s1024:v1015.1.length<9223372036854775808:=by (rw [← e1015];exact (zak (((x1010.toNat:Int):Int).tmod 6) hx).1.2)
     obtain ⟨v1025,e1025⟩:=LX ((v1021 != v1022))
     let A5:=fun t=>A4 (pI v1021::pI v1022::pB v1025::t)
     have f5:LA (KN w0) A5:=fun t h=>f4 _ ⟨zc,zc,zc,h⟩
     have T5:LT (KN w0) Tryz.prog A5 zAe:=fun t=>⟨e_fbv h1020,b_con (pan:=false) (ze6 v1014 v1021 e1021),b_con (pan:=false) (za9 v1015 v1022 e1022 s1023 s1024),e_bin (za rfl) (za rfl) (za rfl) (r_cmp (LO e1025)),T4 _⟩
     cases h1026:v1025 with
     | true =>
      exfalso
      have q0:rst v1015=v1014:=by rw [← e1015,← e1014,zbb (((x1010.toNat:Int):Int).tmod 6) hx,hst]
      have q1:=zbC v1015
      have q2:=zdw v1015
      rw [q0] at q1 q2
      clear hst hx hlx
      simp_all
     | false =>
      obtain ⟨v1027,e1027⟩:=LX (bdO v1014)
      obtain ⟨v1028,e1028⟩:=LX (v1015.2.2)
      obtain ⟨v1029,e1029⟩:=LX (!(v1027 == v1028))
      let A6:=fun t=>A5 (pB v1027::pB v1028::pB v1029::t)
      have f6:LA (KN w0) A6:=fun t h=>f5 _ ⟨zc,zc,zc,h⟩
      have T6:LT (KN w0) Tryz.prog A6 zAf:=fun t=>⟨e_fbv h1026,b_con (pan:=false) (w_bad v1014 v1027 e1027),b_con (pan:=false) (zay v1015 v1028 e1028),e_bin (za rfl) (za rfl) (za rfl) (fun W X Y=>by rw [← e1029];exact r_bne (by kernel_rfl) W X Y),T5 _⟩
      cases h1030:v1029 with
      | true =>
       exfalso
       have q0:rst v1015=v1014:=by rw [← e1015,← e1014,zbb (((x1010.toNat:Int):Int).tmod 6) hx,hst]
       have q1:=zbC v1015
       have q2:=zdw v1015
       rw [q0] at q1 q2
       clear hst hx hlx
       simp_all
      | false =>
       obtain ⟨v1031,e1031⟩:=LX (IntKind.i64.wrap (k+(1:Int)))
       let A7:=fun t=>A6 (pI v1031::t)
       have f7:LA (KN w0) A7:=fun t h=>f6 _ ⟨zc,h⟩
       have T7:LT (KN w0) Tryz.prog A7 zAg:=fun t=>⟨e_fbv h1030,e_bin (za rfl) ze (za rfl) (r_ar (LO e1031)),T6 _⟩
       refine .inr ⟨⟨v1031,v1014,v1015⟩,?_,?_,goes (x:=.n) (y:=.n) (Fb:=FL (A7 []) []) (stb:=qv) (tl:=(.sl 0 (yh 0)::.sl 3 (yh 11)::.sl 5 (.o (.c (.p 800 0)))::.sl 9 (.o (.c (.k (.bool true))))::.sl 10 (yh 10)::.sl 12 (yh 20)::.sl 13 (.o (.c (.p 5005 0)))::.sl 14 (.o (.c (.p 5007 0)))::.sl 15 (yh 52)::.sl 43 (yh 0)::.sl 44 (yh 10)::.sl 45 (yh 12)::.sl 46 (.o (.g [.h 1,.h 2,.h 3,.h 4,.h 5,.h 6,.h 7,.h 8,.h 9]))::.sl 47 (yh 13)::.sl 48 (yh 0)::.sl 49 (yh 14)::.sl 50 (yh 15)::.sl 51 (yh 16)::.sl 52 (yh 17)::.sl 53 (yh 18)::.sl 54 (yh 19)::.sl 55 (yh 20)::.sl 56 (yh 20)::.sl 57 (.o (.c (.p 5005 0)))::.sl 58 (yh 20)::.sl 59 (.o (.c (.p 5007 0)))::.sl 60 (.o (.c (.p 5005 0)))::.sl 61 (.o (.c (.k (.bool false))))::.bx 800 27 [.h 1,.h 2,.h 3,.h 4,.h 5,.h 6,.h 7,.h 8,.h 9]::.bx 5005 62 [.h 40,.h 41]::.bx 5007 79 [.h 42,.h 43,.h 44]::[]:List Atom)) (C:=zAg) (H:=.no) 20000 (LZ ⟨z_c yy,z_c yy,z_c yy,z_c yy,z_c yy,z_c yy,z_c yy,z_c yy,z_c yy,z_c yy,z_c yy,z_c yy,z_g ⟨yy,yy,yy,yy,yy,yy,yy,yy,yy,trivial⟩,z_c yy,z_c yy,z_c yy,z_c yy,z_c yy,z_c yy,z_c yy,z_c yy,z_c yy,z_c yy,z_c yy,z_c yy,z_c yy,z_c yy,z_c yy,z_b ⟨yy,yy,yy,yy,yy,yy,yy,yy,yy,trivial⟩,z_b ⟨yy,yy,trivial⟩,z_b ⟨yy,yy,yy,trivial⟩,trivial⟩) (zg (f7 [] trivial)) (T7 []) mixed hR trivial (fun _ _ _ hs=>by cases hs) (by kernel_rfl) rfl (LZ ⟨z_c yy,z_c yy,z_c yy,z_c yy,z_c yy,z_c yy,z_c yy,z_c yy,z_c (fun β v W h=>(zd rfl β v W).2 h),z_c yy,z_c yy,z_c yy,z_g ⟨yy,yy,yy,yy,yy,yy,yy,yy,yy,trivial⟩,z_c yy,z_c yy,z_c yy,z_c yy,z_c yy,z_c yy,z_c yy,z_c yy,z_c yy,z_c yy,z_c yy,z_c yy,z_c yy,z_c yy,z_c yy,z_b ⟨yy,yy,yy,yy,yy,yy,yy,yy,yy,trivial⟩,z_b ⟨fun β v W h=>(zd rfl β v W).2 h,fun β v W h=>(zd rfl β v W).2 h,trivial⟩,z_b ⟨fun β v W h=>(zd rfl β v W).2 h,fun β v W h=>(zd rfl β v W).2 h,fun β v W h=>(zd rfl β v W).2 h,trivial⟩,trivial⟩)⟩
       all_goals (have dh1003:=LD e1002 h1003;have dh1005:=LD e1004 h1005;have dh1007:=LD e1006 h1007;have x4:v1031=((n+1:Nat):Int):=(by rw [← e1031,hk,wri (by omega)];omega))
       ·show (10 - v1031).toNat<(10 - k).toNat
        omega
       ·exact ⟨n+1,x4,by omega,by rw [← e1015,← e1014,zbb (((x1010.toNat:Int):Int).tmod 6) hx,hst],by rw [← e1015];exact (zak (((x1010.toNat:Int):Int).tmod 6) hx).1,by rw [← e1015,(zak (((x1010.toNat:Int):Int).tmod 6) hx).2];exact hlx⟩
   | false =>
    obtain ⟨v1008,e1008⟩:=LX (true)
    obtain ⟨v1009,e1009⟩:=LX (callS ((v_.1:Int).tmod 6) z)
    obtain ⟨v1010,e1010⟩:=LX (callR ((v_.1:Int).tmod 6) y)
    have s1011:rst y=z:=by exact hst
    have s1012:OkR y:=by exact hx
    have s1013:y.1.length≤1000:=by exact hlx
    obtain ⟨v1014,e1014⟩:=LX (!v1008)
    let A8:=fun t=>A3 (pB v1008::pS (lfO v1009)::pB (bdO v1009)::pS v1010.1::pI (v1010.2.1:Int)::pB v1010.2.2::pB v1014::t)
    have f8:LA (KN w0) A8:=fun t h=>f3 _ ⟨zc,zc,zc,zc,zc,zc,zc,h⟩
    have T8:LT (KN w0) Tryz.prog A8 zAh:=fun t=>⟨e_fbv h1007,b_con (pan:=false) (zpX hM hTS v_.1 z y v1008 v1009 v1010 e1008 e1009 e1010 s1011 s1012 s1013),e_un (za rfl) (za rfl) (fun W=>by rw [← e1014];exact r_not W),T3 _⟩
    cases h1015:v1014 with
    | true =>
     exfalso
     have q0:rst v1010=v1009:=by rw [← e1010,← e1009,zbb ((v_.1:Int).tmod 6) hx,hst]
     have q1:=zbC v1010
     have q2:=zdw v1010
     rw [q0] at q1 q2
     clear hst hx hlx
     simp_all
    | false =>
     obtain ⟨v1016,e1016⟩:=LX ((leftN v1009:Int))
     obtain ⟨v1017,e1017⟩:=LX ((rleft v1010:Int))
     have s1018:okRS v1010:=by (rw [← e1010];exact (zak ((v_.1:Int).tmod 6) hx).1.1)
     have s1019:v1010.1.length<9223372036854775808:=by (rw [← e1010];exact (zak ((v_.1:Int).tmod 6) hx).1.2)
     obtain ⟨v1020,e1020⟩:=LX ((v1016 != v1017))
     let A9:=fun t=>A8 (pI v1016::pI v1017::pB v1020::t)
     have f9:LA (KN w0) A9:=fun t h=>f8 _ ⟨zc,zc,zc,h⟩
     have T9:LT (KN w0) Tryz.prog A9 zAi:=fun t=>⟨e_fbv h1015,b_con (pan:=false) (ze6 v1009 v1016 e1016),b_con (pan:=false) (za9 v1010 v1017 e1017 s1018 s1019),e_bin (za rfl) (za rfl) (za rfl) (r_cmp (LO e1020)),T8 _⟩
     cases h1021:v1020 with
     | true =>
      exfalso
      have q0:rst v1010=v1009:=by rw [← e1010,← e1009,zbb ((v_.1:Int).tmod 6) hx,hst]
      have q1:=zbC v1010
      have q2:=zdw v1010
      rw [q0] at q1 q2
      clear hst hx hlx
      simp_all
     | false =>
      obtain ⟨v1022,e1022⟩:=LX (bdO v1009)
      obtain ⟨v1023,e1023⟩:=LX (v1010.2.2)
      obtain ⟨v1024,e1024⟩:=LX (!(v1022 == v1023))
      let A10:=fun t=>A9 (pB v1022::pB v1023::pB v1024::t)
      have f10:LA (KN w0) A10:=fun t h=>f9 _ ⟨zc,zc,zc,h⟩
      have T10:LT (KN w0) Tryz.prog A10 zzT:=fun t=>⟨e_fbv h1021,b_con (pan:=false) (w_bad v1009 v1022 e1022),b_con (pan:=false) (zay v1010 v1023 e1023),e_bin (za rfl) (za rfl) (za rfl) (fun W X Y=>by rw [← e1024];exact r_bne (by kernel_rfl) W X Y),T9 _⟩
      cases h1025:v1024 with
      | true =>
       exfalso
       have q0:rst v1010=v1009:=by rw [← e1010,← e1009,zbb ((v_.1:Int).tmod 6) hx,hst]
       have q1:=zbC v1010
       have q2:=zdw v1010
       rw [q0] at q1 q2
       clear hst hx hlx
       simp_all
      | false =>
       obtain ⟨v1026,e1026⟩:=LX (IntKind.i64.wrap (k+(1:Int)))
       let A11:=fun t=>A10 (pI v1026::t)
       have f11:LA (KN w0) A11:=fun t h=>f10 _ ⟨zc,h⟩
       have T11:LT (KN w0) Tryz.prog A11 zzU:=fun t=>⟨e_fbv h1025,e_bin (za rfl) ze (za rfl) (r_ar (LO e1026)),T10 _⟩
       refine .inr ⟨⟨v1026,v1009,v1010⟩,?_,?_,goes (x:=.n) (y:=.n) (Fb:=FL (A11 []) []) (stb:=qv) (tl:=(.sl 0 (yh 0)::.sl 3 (yh 11)::.sl 5 (.o (.c (.p 800 0)))::.sl 9 (.o (.c (.k (.bool true))))::.sl 10 (yh 10)::.sl 12 (yh 20)::.sl 13 (.o (.c (.p 5005 0)))::.sl 14 (.o (.c (.p 5007 0)))::.sl 15 (yh 49)::.sl 43 (yh 0)::.sl 44 (yh 10)::.sl 45 (yh 12)::.sl 46 (.o (.g [.h 1,.h 2,.h 3,.h 4,.h 5,.h 6,.h 7,.h 8,.h 9]))::.sl 47 (yh 13)::.sl 48 (yh 0)::.sl 49 (yh 14)::.sl 50 (yh 15)::.sl 51 (yh 16)::.sl 52 (yh 17)::.sl 53 (yh 18)::.sl 54 (yh 19)::.sl 55 (yh 20)::.sl 56 (yh 20)::.sl 57 (.o (.c (.p 5005 0)))::.sl 58 (yh 20)::.sl 59 (.o (.c (.p 5007 0)))::.sl 60 (.o (.c (.p 5005 0)))::.sl 61 (.o (.c (.k (.bool false))))::.bx 800 27 [.h 1,.h 2,.h 3,.h 4,.h 5,.h 6,.h 7,.h 8,.h 9]::.bx 5005 62 [.h 37,.h 38]::.bx 5007 79 [.h 39,.h 40,.h 41]::[]:List Atom)) (C:=zzU) (H:=.no) 20000 (LZ ⟨z_c yy,z_c yy,z_c yy,z_c yy,z_c yy,z_c yy,z_c yy,z_c yy,z_c yy,z_c yy,z_c yy,z_c yy,z_g ⟨yy,yy,yy,yy,yy,yy,yy,yy,yy,trivial⟩,z_c yy,z_c yy,z_c yy,z_c yy,z_c yy,z_c yy,z_c yy,z_c yy,z_c yy,z_c yy,z_c yy,z_c yy,z_c yy,z_c yy,z_c yy,z_b ⟨yy,yy,yy,yy,yy,yy,yy,yy,yy,trivial⟩,z_b ⟨yy,yy,trivial⟩,z_b ⟨yy,yy,yy,trivial⟩,trivial⟩) (zg (f11 [] trivial)) (T11 []) mixed hR trivial (fun _ _ _ hs=>by cases hs) (by kernel_rfl) rfl (LZ ⟨z_c yy,z_c yy,z_c yy,z_c yy,z_c yy,z_c yy,z_c yy,z_c yy,z_c (fun β v W h=>(zd rfl β v W).2 h),z_c yy,z_c yy,z_c yy,z_g ⟨yy,yy,yy,yy,yy,yy,yy,yy,yy,trivial⟩,z_c yy,z_c yy,z_c yy,z_c yy,z_c yy,z_c yy,z_c yy,z_c yy,z_c yy,z_c yy,z_c yy,z_c yy,z_c yy,z_c yy,z_c yy,z_b ⟨yy,yy,yy,yy,yy,yy,yy,yy,yy,trivial⟩,z_b ⟨fun β v W h=>(zd rfl β v W).2 h,fun β v W h=>(zd rfl β v W).2 h,trivial⟩,z_b ⟨fun β v W h=>(zd rfl β v W).2 h,fun β v W h=>(zd rfl β v W).2 h,fun β v W h=>(zd rfl β v W).2 h,trivial⟩,trivial⟩)⟩
       all_goals (have dh1003:=LD e1002 h1003;have dh1005:=LD e1004 h1005;have dh1007:=LE e1006 h1007;have x4:v1026=((n+1:Nat):Int):=(by rw [← e1026,hk,wri (by omega)];omega))
       ·show (10 - v1026).toNat<(10 - k).toNat
        omega
       ·exact ⟨n+1,x4,by omega,by rw [← e1010,← e1009,zbb ((v_.1:Int).tmod 6) hx,hst],by rw [← e1010];exact (zak ((v_.1:Int).tmod 6) hx).1,by rw [← e1010,(zak ((v_.1:Int).tmod 6) hx).2];exact hlx⟩
  | false =>
   have T12:LT (KN w0) Tryz.prog A2 zzV:=fun t=>⟨e_fbv h1005,T2 _⟩
   exact .inl (goes (x:=(.x 2)) (y:=(.x 2)) (Fb:=FL (A2 []) []) (stb:=qv) (tl:=(.sl 0 (yh 0)::.sl 3 (yh 11)::.sl 5 (.o (.c (.p 800 0)))::.sl 9 (.o (.c (.k (.bool true))))::.sl 10 (yh 10)::.sl 12 (yh 20)::.sl 13 (.o (.c (.p 5005 0)))::.sl 14 (.o (.c (.p 5007 0)))::.sl 43 (yh 0)::.sl 44 (yh 10)::.sl 45 (yh 12)::.sl 46 (.o (.g [.h 1,.h 2,.h 3,.h 4,.h 5,.h 6,.h 7,.h 8,.h 9]))::.sl 47 (yh 13)::.sl 48 (yh 0)::.sl 49 (yh 14)::.sl 50 (yh 15)::.sl 51 (yh 16)::.sl 52 (yh 17)::.sl 53 (yh 18)::.sl 54 (yh 19)::.sl 55 (yh 20)::.sl 56 (yh 20)::.sl 57 (.o (.c (.p 5005 0)))::.sl 58 (yh 20)::.sl 59 (.o (.c (.p 5007 0)))::.sl 60 (.o (.c (.p 5005 0)))::.sl 61 (.o (.c (.k (.bool false))))::.bx 800 27 [.h 1,.h 2,.h 3,.h 4,.h 5,.h 6,.h 7,.h 8,.h 9]::[]:List Atom)) (C:=zzV) (H:=.no) 20000 (LZ ⟨z_c yy,z_c yy,z_c yy,z_c yy,z_c yy,z_c yy,z_c yy,z_c yy,z_c yy,z_c yy,z_c yy,z_c yy,z_g ⟨yy,yy,yy,yy,yy,yy,yy,yy,yy,trivial⟩,z_c yy,z_c yy,z_c yy,z_c yy,z_c yy,z_c yy,z_c yy,z_c yy,z_c yy,z_c yy,z_c yy,z_c yy,z_c yy,z_c yy,z_c yy,z_b ⟨yy,yy,yy,yy,yy,yy,yy,yy,yy,trivial⟩,z_b ⟨yy,yy,trivial⟩,z_b ⟨yy,yy,yy,trivial⟩,trivial⟩) (zg (f2 [] trivial)) (T12 []) mixed hR trivial (fun _ _ _ hs=>by cases hs) (by kernel_rfl) rfl (LZ ⟨z_c (LV u0),z_c (LV u11),z_c yy,z_c yy,z_c (LV u10),z_c (LV u20),z_c yy,z_c yy,z_c (LV u0),z_c (LV u10),z_c (LV u12),z_g ⟨LV u1,LV u2,LV u3,LV u4,LV u5,LV u6,LV u7,LV u8,LV u9,trivial⟩,z_c (LV u13),z_c (LV u0),z_c (LV u14),z_c (LV u15),z_c (LV u16),z_c (LV u17),z_c (LV u18),z_c (LV u19),z_c (LV u20),z_c (LV u20),z_c yy,z_c (LV u20),z_c yy,z_c yy,z_c yy,z_b ⟨LV u1,LV u2,LV u3,LV u4,LV u5,LV u6,LV u7,LV u8,LV u9,trivial⟩,trivial⟩))
 | false =>
  have T13:LT (KN w0) Tryz.prog A1 zzW:=fun t=>⟨e_fbv h1003,T1 _⟩
  exact .inl (goes (x:=(.x 2)) (y:=(.x 2)) (Fb:=FL (A1 []) []) (stb:=qv) (tl:=(.sl 0 (yh 0)::.sl 3 (yh 11)::.sl 5 (.o (.c (.p 800 0)))::.sl 9 (.o (.c (.k (.bool true))))::.sl 10 (yh 10)::.sl 12 (yh 20)::.sl 13 (.o (.c (.p 5005 0)))::.sl 14 (.o (.c (.p 5007 0)))::.sl 43 (yh 0)::.sl 44 (yh 10)::.sl 45 (yh 12)::.sl 46 (.o (.g [.h 1,.h 2,.h 3,.h 4,.h 5,.h 6,.h 7,.h 8,.h 9]))::.sl 47 (yh 13)::.sl 48 (yh 0)::.sl 49 (yh 14)::.sl 50 (yh 15)::.sl 51 (yh 16)::.sl 52 (yh 17)::.sl 53 (yh 18)::.sl 54 (yh 19)::.sl 55 (yh 20)::.sl 56 (yh 20)::.sl 57 (.o (.c (.p 5005 0)))::.sl 58 (yh 20)::.sl 59 (.o (.c (.p 5007 0)))::.sl 60 (.o (.c (.p 5005 0)))::.sl 61 (.o (.c (.k (.bool false))))::.bx 800 27 [.h 1,.h 2,.h 3,.h 4,.h 5,.h 6,.h 7,.h 8,.h 9]::[]:List Atom)) (C:=zzW) (H:=.no) 20000 (LZ ⟨z_c yy,z_c yy,z_c yy,z_c yy,z_c yy,z_c yy,z_c yy,z_c yy,z_c yy,z_c yy,z_c yy,z_c yy,z_g ⟨yy,yy,yy,yy,yy,yy,yy,yy,yy,trivial⟩,z_c yy,z_c yy,z_c yy,z_c yy,z_c yy,z_c yy,z_c yy,z_c yy,z_c yy,z_c yy,z_c yy,z_c yy,z_c yy,z_c yy,z_c yy,z_b ⟨yy,yy,yy,yy,yy,yy,yy,yy,yy,trivial⟩,z_b ⟨yy,yy,trivial⟩,z_b ⟨yy,yy,yy,trivial⟩,trivial⟩) (zg (f1 [] trivial)) (T13 []) mixed hR trivial (fun _ _ _ hs=>by cases hs) (by kernel_rfl) rfl (LZ ⟨z_c (LV u0),z_c (LV u11),z_c yy,z_c yy,z_c (LV u10),z_c (LV u20),z_c yy,z_c yy,z_c (LV u0),z_c (LV u10),z_c (LV u12),z_g ⟨LV u1,LV u2,LV u3,LV u4,LV u5,LV u6,LV u7,LV u8,LV u9,trivial⟩,z_c (LV u13),z_c (LV u0),z_c (LV u14),z_c (LV u15),z_c (LV u16),z_c (LV u17),z_c (LV u18),z_c (LV u19),z_c (LV u20),z_c (LV u20),z_c yy,z_c (LV u20),z_c yy,z_c yy,z_c yy,z_b ⟨LV u1,LV u2,LV u3,LV u4,LV u5,LV u6,LV u7,LV u8,LV u9,trivial⟩,trivial⟩))
structure wd_out_T where
 i:Int
def zan:List Atom:=[.sl 0 (yh 0),.sl 3 (yh 11),.sl 5 (.o (.c (.p 800 0))),.sl 9 (.o (.c (.k (.bool true)))),.sl 10 (yh 10),.sl 43 (yh 0),.sl 44 (yh 10),.sl 45 (yh 12),.sl 46 (.o (.g [.h 1,.h 2,.h 3,.h 4,.h 5,.h 6,.h 7,.h 8,.h 9])),.sl 47 (yh 13),.sl 48 (yh 0),.sl 49 (yh 14),.sl 50 (yh 15),.sl 51 (yh 16),.sl 52 (yh 17),.bx 800 27 [.h 1,.h 2,.h 3,.h 4,.h 5,.h 6,.h 7,.h 8,.h 9]]
def zb1:LoopS:=⟨7,[.sl 0 (yh 0),.sl 3 (yh 11),.sl 5 (.o (.c (.p 800 0))),.sl 9 (.o (.c (.k (.bool true)))),.sl 10 (yh 10),.sl 43 (yh 0),.sl 44 (yh 10),.sl 45 (yh 12),.sl 46 (.o (.g [.h 1,.h 2,.h 3,.h 4,.h 5,.h 6,.h 7,.h 8,.h 9])),.sl 47 (yh 13),.sl 48 (yh 0),.sl 49 (yh 14),.sl 50 (yh 15),.sl 51 (yh 16),.sl 52 (.o (.c (.k (.int .i64 0)))),.bx 800 27 [.h 1,.h 2,.h 3,.h 4,.h 5,.h 6,.h 7,.h 8,.h 9]],(.x 0),[.sl 0 (yh 0),.sl 3 (yh 11),.sl 5 (.o (.c (.p 800 0))),.sl 9 (.o (.c (.k (.bool true)))),.sl 10 (yh 10),.sl 43 (yh 0),.sl 44 (yh 10),.sl 45 (yh 12),.sl 46 (.o (.g [.h 1,.h 2,.h 3,.h 4,.h 5,.h 6,.h 7,.h 8,.h 9])),.sl 47 (yh 13),.sl 48 (yh 0),.sl 49 (yh 14),.sl 50 (yh 15),.sl 51 (yh 16),.bx 800 27 [.h 1,.h 2,.h 3,.h 4,.h 5,.h 6,.h 7,.h 8,.h 9]]⟩
abbrev zyV:List (Nat×Ent):=(1005000,.bin .lss 3 (yh 17) (yh 16) (yh 18))::[]
abbrev zzX:List (Nat×Ent):=(10018,.fb 18 true)::(1005001,.op (.ia 44) [yh 15,yh 17] [] (yh 19))::(1005002,.op (.ld 9) [yh 19] [] (yh 20))::(1005005,.neu 18 [yh 20] 62 [.h 21,.h 22])::(1005007,.neu 19 [yh 20] 79 [.h 23,.h 24,.h 25])::(1005011,.bin .eql 45 (LF (.p 5005 0)) (LF (.k (.pointer none))) (LF (.k (.bool false))))::(1006013,.bin .add 3 (yh 17) (LF (.k (.int .i64 1))) (yh 26))::zyV
abbrev zzY:List (Nat×Ent):=(10018,.fb 18 false)::zyV
theorem zqp {w0:World} (hM:LM w0) (hTS:LS w0) (s:(List UInt8)) (v_:Val) (yb:(List UInt8)) (l:(List UInt8)) (v1:(List UInt8)) (v2:(List UInt8)) (v4:(List UInt8)) (v6:(List (List UInt8))) (v7:Int) {F:Fact} (u0:F.c 0=pS s) (u1:F.c 1=pV (.int .u8 v_.1)) (u2:F.c 2=pI v_.2.1) (u3:F.c 3=pS v_.2.2.1) (u4:F.c 4=pLs cI v_.2.2.2.1) (u5:F.c 5=pI v_.2.2.2.2.1.1) (u6:F.c 6=pI v_.2.2.2.2.1.2.1) (u7:F.c 7=pI v_.2.2.2.2.1.2.2) (u8:F.c 8=pLs cPl v_.2.2.2.2.2.1) (u9:F.c 9=pLs cI v_.2.2.2.2.2.2) (u10:F.c 10=pLs cB yb) (u11:F.c 11=pLs cB l) (u12:F.c 12=pS v1) (u13:F.c 13=pS v2) (u14:F.c 14=pS v4) (u15:F.c 15=pLs cS v6) (u16:F.c 16=pI v7) (R:Frm) (hR:R.pm=⟨ntOf Tryz.prog 4,[800],[]⟩) (hlb:l.length<9223372036854775808) (hb6:v6.length≤3) (h7:(v6.length:Int)=v7) (hT:∀x∈v6,x.length≤1000):zj (KN w0) Tryz.prog F R zb1 (lp Tryz.prog 4 0):=by
 refine zG (T:=wd_out_T) (fun t=>FL [pS s,pV (.int .u8 v_.1),pI v_.2.1,pS v_.2.2.1,pLs cI v_.2.2.2.1,pI v_.2.2.2.2.1.1,pI v_.2.2.2.2.1.2.1,pI v_.2.2.2.2.1.2.2,pLs cPl v_.2.2.2.2.2.1,pLs cI v_.2.2.2.2.2.2,pLs cB yb,pLs cB l,pS v1,pS v2,pS v4,pLs cS v6,pI v7,pI t.i] []) (fun ⟨i⟩=>∃n:Nat,i=(n:Int)∧n≤v6.length) (fun ⟨i⟩=>((v6.length:Int) - i).toNat) { i:=(0:Int) } zan ⟨0,rfl,Nat.zero_le _⟩ (LZ ⟨z_c (LU u0),z_c (LU u11),z_c yy,z_c yy,z_c (LU u10),z_c (LU u0),z_c (LU u10),z_c (LU u12),z_g ⟨LU u1,LU u2,LU u3,LU u4,LU u5,LU u6,LU u7,LU u8,LU u9,trivial⟩,z_c (LU u13),z_c (LU u0),z_c (LU u14),z_c (LU u15),z_c (LU u16),z_c yy,z_b ⟨LU u1,LU u2,LU u3,LU u4,LU u5,LU u6,LU u7,LU u8,LU u9,trivial⟩,trivial⟩) rfl fun t hJ=>?_
 obtain ⟨i⟩:=t
 dsimp only at hJ
 obtain ⟨n,hi,hn⟩:=hJ
 obtain ⟨v501,e501⟩:=LX (decide (i<v7))
 let A1:List Pred→List Pred:=fun t=>pS s::pV (.int .u8 v_.1)::pI v_.2.1::pS v_.2.2.1::pLs cI v_.2.2.2.1::pI v_.2.2.2.2.1.1::pI v_.2.2.2.2.1.2.1::pI v_.2.2.2.2.1.2.2::pLs cPl v_.2.2.2.2.2.1::pLs cI v_.2.2.2.2.2.2::pLs cB yb::pLs cB l::pS v1::pS v2::pS v4::pLs cS v6::pI v7::pI i::pB v501::t
 have f1:LA (KN w0) A1:=fun t h=>⟨zc,zc,zc,zc,(zi zl),zc,zc,zc,(zi zo),(zi zl),(zi (zE rfl)),(zi (zE rfl)),zc,zc,zc,(zi zaP),zc,zc,zc,h⟩
 have T1:LT (KN w0) Tryz.prog A1 zyV:=fun t=>⟨e_bin (za rfl) (za rfl) (za rfl) (r_cmp (LO e501)),trivial⟩
 cases h502:v501 with
 | true =>
  obtain ⟨n503,x504,s505,s506⟩:∃(n503:Nat) (x504:(List UInt8)),i=(n503:Int)∧v6[n503]?=some x504:=by (have dh502:=LD e501 h502;have hlt:n<v6.length:=(by omega);exact ⟨n,v6[n],hi,List.getElem?_eq_getElem hlt⟩)
  obtain ⟨v507,e507⟩:=LX (some x504)
  obtain ⟨v508,e508⟩:=LX ((x504,0,false))
  obtain ⟨v509,e509⟩:=LX (IntKind.i64.wrap (i+(1:Int)))
  let A2:=fun t=>A1 (pP (cS x504)::pS x504::pS (lfO v507)::pB (bdO v507)::pS v508.1::pI (v508.2.1:Int)::pB v508.2.2::pI v509::t)
  have f2:LA (KN w0) A2:=fun t h=>f1 _ ⟨(qw (zaP _)),zc,zc,zc,zc,zc,zc,zc,h⟩
  have T2:LT (KN w0) Tryz.prog A2 zzX:=fun t=>⟨e_fbv h502,e_iaL (E:=9) (z:=1) (fun _=>rfl) (by kernel_rfl) (by kernel_rfl) (zd rfl) (za rfl) s505 s506 (zd rfl),e_ldP (by kernel_rfl) (zd rfl) (zd rfl),zbS (zgi x504 v507 e507) rfl rfl rfl rfl,zbS (zsl x504 v508 e508) rfl rfl rfl rfl,zh9 (by kernel_rfl),e_bin (za rfl) ze (za rfl) (r_ar (LO e509)),T1 _⟩
  have L_wd_in:∀R:Frm,R.pm=⟨ntOf Tryz.prog 4,[800],[]⟩→zj (KN w0) Tryz.prog (FL (A2 []) []) R zbq (lp Tryz.prog 4 1):=fun R hR=>zsq hM hTS s v_ yb l v1 v2 v4 v6 v7 i v501 n503 x504 v507 v508 h502  rfl rfl rfl rfl rfl rfl rfl rfl rfl rfl rfl rfl rfl rfl rfl rfl rfl rfl rfl rfl rfl rfl rfl rfl rfl rfl R hR hlb (by rw [← e508,← e507];rfl) (by rw [← e508];exact ⟨Nat.zero_le _,Nat.lt_of_le_of_lt (hT _ (List.mem_of_getElem? s506)) (by decide)⟩) (by rw [← e508];exact hT _ (List.mem_of_getElem? s506))
  refine .inr ⟨⟨v509⟩,?_,?_,goes (x:=.n) (y:=.n) (Fb:=FL (A2 []) []) (stb:=zan) (tl:=[.sl 0 (yh 0),.sl 3 (yh 11),.sl 5 (.o (.c (.p 800 0))),.sl 9 (.o (.c (.k (.bool true)))),.sl 10 (yh 10),.sl 43 (yh 0),.sl 44 (yh 10),.sl 45 (yh 12),.sl 46 (.o (.g [.h 1,.h 2,.h 3,.h 4,.h 5,.h 6,.h 7,.h 8,.h 9])),.sl 47 (yh 13),.sl 48 (yh 0),.sl 49 (yh 14),.sl 50 (yh 15),.sl 51 (yh 16),.sl 52 (yh 26),.bx 800 27 [.h 1,.h 2,.h 3,.h 4,.h 5,.h 6,.h 7,.h 8,.h 9]]) (C:=zzX) (H:=⟨[zbq],[],0⟩) 5000 (LZ ⟨z_c yy,z_c yy,z_c yy,z_c yy,z_c yy,z_c yy,z_c yy,z_c yy,z_g ⟨yy,yy,yy,yy,yy,yy,yy,yy,yy,trivial⟩,z_c yy,z_c yy,z_c yy,z_c yy,z_c yy,z_c yy,z_b ⟨yy,yy,yy,yy,yy,yy,yy,yy,yy,trivial⟩,trivial⟩) (zg (f2 [] trivial)) (T2 []) mixed hR trivial (fun p hp s hs=>by
   have hl:zD (lp Tryz.prog 4 0)=[(13,lp Tryz.prog 4 1)]:=by kernel_rfl
   rw [hl] at hp
   simp only [List.mem_cons,List.not_mem_nil,or_false] at hp
   rcases hp with rfl
   ·have e:s=zbq:=(Option.some.inj hs).symm
    subst e;exact L_wd_in R hR) (by kernel_rfl) rfl (LZ ⟨z_c yy,z_c yy,z_c yy,z_c yy,z_c yy,z_c yy,z_c yy,z_c yy,z_g ⟨yy,yy,yy,yy,yy,yy,yy,yy,yy,trivial⟩,z_c yy,z_c yy,z_c yy,z_c yy,z_c yy,z_c (fun β v W h=>(zd rfl β v W).2 h),z_b ⟨yy,yy,yy,yy,yy,yy,yy,yy,yy,trivial⟩,trivial⟩)⟩
  all_goals (have dh502:=LD e501 h502;have x4:v509=((n+1:Nat):Int):=(by rw [← e509,hi,wri (by omega)];omega))
  ·show ((v6.length:Int) - v509).toNat<((v6.length:Int) - i).toNat
   omega
  ·exact ⟨n+1,x4,by omega⟩
 | false =>
  have T3:LT (KN w0) Tryz.prog A1 zzY:=fun t=>⟨e_fbv h502,T1 _⟩
  exact .inl (goes (x:=(.x 0)) (y:=(.x 0)) (Fb:=FL (A1 []) []) (stb:=zan) (tl:=[.sl 0 (yh 0),.sl 3 (yh 11),.sl 5 (.o (.c (.p 800 0))),.sl 9 (.o (.c (.k (.bool true)))),.sl 10 (yh 10),.sl 43 (yh 0),.sl 44 (yh 10),.sl 45 (yh 12),.sl 46 (.o (.g [.h 1,.h 2,.h 3,.h 4,.h 5,.h 6,.h 7,.h 8,.h 9])),.sl 47 (yh 13),.sl 48 (yh 0),.sl 49 (yh 14),.sl 50 (yh 15),.sl 51 (yh 16),.bx 800 27 [.h 1,.h 2,.h 3,.h 4,.h 5,.h 6,.h 7,.h 8,.h 9]]) (C:=zzY) (H:=.no) 5000 (LZ ⟨z_c yy,z_c yy,z_c yy,z_c yy,z_c yy,z_c yy,z_c yy,z_c yy,z_g ⟨yy,yy,yy,yy,yy,yy,yy,yy,yy,trivial⟩,z_c yy,z_c yy,z_c yy,z_c yy,z_c yy,z_c yy,z_b ⟨yy,yy,yy,yy,yy,yy,yy,yy,yy,trivial⟩,trivial⟩) (zg (f1 [] trivial)) (T3 []) mixed hR trivial (fun _ _ _ hs=>by cases hs) (by kernel_rfl) rfl (LZ ⟨z_c (LV u0),z_c (LV u11),z_c yy,z_c yy,z_c (LV u10),z_c (LV u0),z_c (LV u10),z_c (LV u12),z_g ⟨LV u1,LV u2,LV u3,LV u4,LV u5,LV u6,LV u7,LV u8,LV u9,trivial⟩,z_c (LV u13),z_c (LV u0),z_c (LV u14),z_c (LV u15),z_c (LV u16),z_b ⟨LV u1,LV u2,LV u3,LV u4,LV u5,LV u6,LV u7,LV u8,LV u9,trivial⟩,trivial⟩))
noncomputable def zmg:Code:=match zR Tryz.prog 4 with
 | .seq _ (.seq _ (.seq _ (.seq _ (.seq _ c))))=>c
 | _=>.skip
theorem zqs {w0:World} (s:(List UInt8)) (v_:Val) (yb:(List UInt8)) (l:(List UInt8)) (hM:LM w0) (hTS:LS w0) (v1:(List UInt8)) (v2:(List UInt8)) (v4:(List UInt8)) (v6:(List (List UInt8))) (v7:Int) (e1:(yb)=v1) (e2:(byV (v_.1.tmod 6) v_)=v2) (e4:(v2++s)=v4) (e6:(([s,v1,v4]:List (List UInt8)))=v6) (e7:((v6.length:Int))=v7) (s3:OkV v_) (s5:(((v2:List UInt8).length+(s:List UInt8).length:Nat):Int)≤9223372036854775807) (R:Frm) (hR:R.pm=⟨ntOf Tryz.prog 4,[800],[]⟩) (L_wd_out:zj (KN w0) Tryz.prog (FL [pS s,pV (.int .u8 v_.1),pI v_.2.1,pS v_.2.2.1,pLs cI v_.2.2.2.1,pI v_.2.2.2.2.1.1,pI v_.2.2.2.2.1.2.1,pI v_.2.2.2.2.1.2.2,pLs cPl v_.2.2.2.2.2.1,pLs cI v_.2.2.2.2.2.2,pLs cB yb,pLs cB l,pS v1,pS v2,pS v4,pLs cS v6,pI v7] []) R zb1 (lp Tryz.prog 4 0)) :
  Goes (KN w0) Tryz.prog R zmg (FL [pS s,pV (.int .u8 v_.1),pI v_.2.1,pS v_.2.2.1,pLs cI v_.2.2.2.1,pI v_.2.2.2.2.1.1,pI v_.2.2.2.2.1.2.1,pI v_.2.2.2.2.1.2.2,pLs cPl v_.2.2.2.2.2.1,pLs cI v_.2.2.2.2.2.2,pLs cB yb,pLs cB l,pS v1,pS v2,pS v4,pLs cS v6,pI v7] []) [.sl 0 (yh 0),.sl 3 (yh 11),.sl 5 (.o (.c (.p 800 0))),.sl 8 (.o (.c (.k (.bool false)))),.sl 9 (.o (.c (.k (.bool true)))),.sl 10 (yh 10),.bx 800 27 [.h 1,.h 2,.h 3,.h 4,.h 5,.h 6,.h 7,.h 8,.h 9]] .r (FL [pS s,pV (.int .u8 v_.1),pI v_.2.1,pS v_.2.2.1,pLs cI v_.2.2.2.1,pI v_.2.2.2.2.1.1,pI v_.2.2.2.2.1.2.1,pI v_.2.2.2.2.1.2.2,pLs cPl v_.2.2.2.2.2.1,pLs cI v_.2.2.2.2.2.2,pLs cB yb,pLs cB l,pS v1,pS v2,pS v4,pLs cS v6,pI v7] []) [.sl 8 (.o (.c (.k (.bool true))))] :=
 goes (x:=.r) (y:=.r) (Fb:=FL [pS s,pV (.int .u8 v_.1),pI v_.2.1,pS v_.2.2.1,pLs cI v_.2.2.2.1,pI v_.2.2.2.2.1.1,pI v_.2.2.2.2.1.2.1,pI v_.2.2.2.2.1.2.2,pLs cPl v_.2.2.2.2.2.1,pLs cI v_.2.2.2.2.2.2,pLs cB yb,pLs cB l,pS v1,pS v2,pS v4,pLs cS v6,pI v7] []) (stb:=[.sl 0 (yh 0),.sl 3 (yh 11),.sl 5 (.o (.c (.p 800 0))),.sl 8 (.o (.c (.k (.bool false)))),.sl 9 (.o (.c (.k (.bool true)))),.sl 10 (yh 10),.bx 800 27 [.h 1,.h 2,.h 3,.h 4,.h 5,.h 6,.h 7,.h 8,.h 9]]) (tl:=[.sl 8 (.o (.c (.k (.bool true))))]) (C:=((1000102,.op (.cv 43 9) [yh 10] [] (yh 12)) ::
  (1000104,.call ⟨15,[.o (.g [.h 1,.h 2,.h 3,.h 4,.h 5,.h 6,.h 7,.h 8,.h 9])],[],yh 13,[]⟩) ::
  (1000106,.bin .add 9 (yh 13) (yh 0) (yh 14)) ::
  (1000107,.dat 9 3 [.h 0,.h 12,.h 14] 15) ::
  (1000108,.op (.len [44] 3) [yh 15] [] (yh 16)) ::
  []:List (Nat×Ent))) (H:=⟨[zb1],[],0⟩) 100 (fun _ _ _ _ h=>h) (zg ⟨zc,zc,zc,zc,(zi zl),zc,zc,zc,(zi zo),(zi zl),(zi (zE rfl)),(zi (zE rfl)),zc,zc,zc,(zi zaP),zc,trivial⟩) ⟨zvj (E:=5) (l:=yb) (by kernel_rfl) (by kernel_rfl) (by kernel_rfl) (zd rfl) (by rw [e1];exact za rfl),
  zh (v_own v_ v2 e2 s3),
  e_bin (za rfl) (za rfl) (za rfl) (fun W X Y=>by rw [← e4];exact r_cat s5 W X Y),
  e_dat (c:=cS) (l:=([s,v1,v4]:List (List UInt8))) (ps:=(pS s::pS v1::pS v4::[])) (qs:=(pS s::pS v1::pS v4::[])) (by rw [e6];rfl) rfl rfl rfl (pimps (fun _ _ _ h=>h) <| pimps (fun _ _ _ h=>h) <| pimps (fun _ _ _ h=>h) <| zdg) rfl,
  zH (E:=9) (by kernel_rfl) (zd rfl) (za (by rw [e7];rfl)),
  trivial⟩ mixed hR trivial (fun p hp s hs=>by
 have hl:zD zmg=[(7,lp Tryz.prog 4 0),(13,lp Tryz.prog 4 1)]:=by kernel_rfl
 rw [hl] at hp
 simp only [List.mem_cons,List.not_mem_nil,or_false] at hp
 rcases hp with rfl | rfl
 ·have e:s=zb1:=(Option.some.inj hs).symm
  subst e;exact L_wd_out
 ·cases hs) (by kernel_rfl:zB (KN w0) Tryz.prog _ ⟨[zb1],[],0⟩ ⟨ntOf Tryz.prog 4,[800],[]⟩ zmg 100 [.sl 0 (yh 0),.sl 3 (yh 11),.sl 5 (.o (.c (.p 800 0))),.sl 8 (.o (.c (.k (.bool false)))),.sl 9 (.o (.c (.k (.bool true)))),.sl 10 (yh 10),.bx 800 27 [.h 1,.h 2,.h 3,.h 4,.h 5,.h 6,.h 7,.h 8,.h 9]] .r [.sl 8 (.o (.c (.k (.bool true))))]=true) rfl (fun _ _ _ _ h=>h)
end Go.Proofs.YtjcegdldgjphiaaGreatDoor
namespace Go.Proofs.YtjcegdldgjphiaaGreatDoor
open Go.RowKit Go.Shelf
theorem zpa {W W':World} (h:Below W.heap.size W W'):Oth (fun _=>False) W W':=⟨h.os,h.tape,h.output,h.size,fun k hk _=>h.block k hk⟩
theorem zvp {a:Int} {l:List UInt8} (h:0≤a∧a<65536) (hl:0<l.length):∃k:Nat,(IntKind.i64.wrap a).tmod (l.length:Int)=(k:Int)∧k<l.length:=by
 obtain ⟨n,rfl⟩:∃n:Nat,a=(n:Int):=⟨a.toNat,by omega⟩
 refine ⟨n%l.length,?_,Nat.mod_lt _ hl⟩
 rw [wri (by omega),Int.tmod_eq_emod_of_nonneg (by omega)]
 omega
theorem zsz (a b:Int):∃x:UInt8,Go.bits .xor .u8 a b=(x.toNat:Int):=by
 refine ⟨⟨BitVec.ofInt 8 a ^^^ BitVec.ofInt 8 b⟩,?_⟩
 unfold Go.bits
 show IntKind.u8.wrap ((BitVec.ofInt 8 a ^^^ BitVec.ofInt 8 b).toNat:Int)=_
 rw [wu8]
 have:=(BitVec.ofInt 8 a ^^^ BitVec.ofInt 8 b).isLt
 show _=(((BitVec.ofInt 8 a ^^^ BitVec.ofInt 8 b).toNat:Nat):Int)
 omega
theorem zui (own:List UInt8) {K:Nat} (hK:K<own.length) (bb:UInt8) (cap:Nat) (W:World) (D:Dat):okp ((own.set K bb).flatMap cB) (((bytesRow ⟨own.toArray⟩ cap).setIfInBounds K (.int .u8 (bb.toNat:Int))).toList.drop 0) W D:=by
 have e:((bytesRow ⟨own.toArray⟩ cap).setIfInBounds K (.int .u8 (bb.toNat:Int))).toList=(own.set K bb).map (fun b=>Value.int .u8 (b.toNat:Int))++List.replicate (cap - own.length) (.int .u8 0):=by
  unfold bytesRow
  simp [List.set_append,hK,List.map_set,ByteArray.size]
 unfold okp
 rw [zbR zc9,List.drop_zero,e,Nat.mul_one,List.take_left' (by simp)]
 have:=zlT (own.set K bb) W D
 simpa [Lib.strCells] using this
theorem zuI (s:List UInt8):(⟨s.toArray⟩:ByteArray).extract 0 (min (s.length:Int) 200).toNat=⟨(s.take 200).toArray⟩:=by
 rw [show (min (s.length:Int) 200).toNat=min s.length 200 by omega]
 have h:=zlp s 0 (min s.length 200)
 rw [List.drop_zero,Nat.sub_zero] at h
 refine h.trans ?_
 rcases Nat.le_total s.length 200 with hl | hl
 ·rw [Nat.min_eq_left hl,List.take_of_length_le (Nat.le_refl _),List.take_of_length_le hl]
 ·rw [Nat.min_eq_right hl]
theorem zqy {W1 W2:World} {B:Nat} {T U:TypeId} {cs:Array Value} {a b:Value} (hb:Below W1.heap.size W1 W2) (h1:W1.heap[B]?=some (.cells cs T)) (h2:W1.heap[B+1]?=some (.cells #[a,b] U)) (hs:B+2≤W1.heap.size) (own:List UInt8) {K:Nat} (hK:K<own.length) (cap:Nat) :
  let W3:=(W2.alloc (Obj.cells (bytesRow { data:=own.toArray } cap) 5 ((bytesRow { data:=own.toArray } cap).size,(bytesRow { data:=own.toArray } cap).size+1))).drew
  W3.cell? ⟨B+1,0,none⟩=some a∧W3.cell? ⟨B+1,1,none⟩=some b∧W3.cell? ⟨W2.heap.size,K,none⟩=some (.int .u8 (own[K].toNat:Int))∧W3.frozen? ⟨W2.heap.size,K,none⟩=false∧W3.heap[B]?=some (.cells cs T)∧W3.heap[W2.heap.size]?=some (.cells (bytesRow { data:=own.toArray } cap) 5 ((bytesRow { data:=own.toArray } cap).size,(bytesRow { data:=own.toArray } cap).size+1))∧Below W2.heap.size W2 W3:=by
 intro W3
 have hsz:=hb.size
 have e1:W3.heap[B]?=some (.cells cs T):=(heap_alloc_old _ _ (by omega)).trans ((hb.block _ (by omega)).trans h1)
 have e2:W3.heap[B+1]?=some (.cells #[a,b] U):=(heap_alloc_old _ _ (by omega)).trans ((hb.block _ (by omega)).trans h2)
 have e3:W3.heap[W2.heap.size]?=some (.cells (bytesRow { data:=own.toArray } cap) 5 ((bytesRow { data:=own.toArray } cap).size,(bytesRow { data:=own.toArray } cap).size+1)):=heap_alloc_new _ _
 have e4:(bytesRow { data:=own.toArray } cap)[K]?=some (.int .u8 (own[K].toNat:Int)):=by
  unfold bytesRow
  rw [Array.getElem?_append_left (by simpa using hK)]
  simp [hK]
 have e5:K<(bytesRow { data:=own.toArray } cap).size:=(Array.getElem?_eq_some_iff.1 e4).1
 refine ⟨by rw [zao e2];rfl,by rw [zao e2];rfl,by rw [zao e3];exact e4,?_,e1,e3,((Below.refl _ W2).alloc (Nat.le_refl _) _).drew⟩
 unfold World.frozen?
 rw [e3]
 simp only [Bool.and_eq_false_iff,decide_eq_false_iff_not]
 exact .inl (by omega)
theorem zvd {W W1:World} {T U:TypeId} {c0 c1 c2 c3 c4 c5 c6 c7 c8 a b:Value} (hb:Below ((W.alloc (.cells #[c0,c1,c2,c3,c4,c5,c6,c7,c8] T)).alloc (.cells #[a,b] U)).heap.size ((W.alloc (.cells #[c0,c1,c2,c3,c4,c5,c6,c7,c8] T)).alloc (.cells #[a,b] U)) W1) :
  W1.cell? ⟨W.heap.size,0,none⟩=some c0∧W1.cell? ⟨W.heap.size,1,none⟩=some c1∧W1.cell? ⟨W.heap.size,2,none⟩=some c2∧W1.cell? ⟨W.heap.size,3,none⟩=some c3∧W1.cell? ⟨W.heap.size,4,none⟩=some c4∧W1.cell? ⟨W.heap.size,5,none⟩=some c5∧W1.cell? ⟨W.heap.size,6,none⟩=some c6∧W1.cell? ⟨W.heap.size,7,none⟩=some c7∧W1.cell? ⟨W.heap.size,8,none⟩=some c8∧Below W.heap.size W W1∧Hid (W1.heap[W.heap.size]?=some (.cells #[c0,c1,c2,c3,c4,c5,c6,c7,c8] T)∧W1.heap[W.heap.size+1]?=some (.cells #[a,b] U)∧W.heap.size+2≤W1.heap.size):=by
 have h1:W1.heap[W.heap.size]?=some (.cells #[c0,c1,c2,c3,c4,c5,c6,c7,c8] T):=by
  rw [hb.block _ (by simp;omega),heap_alloc_old _ _ (by simp),heap_alloc_new]
 have h2:W1.heap[W.heap.size+1]?=some (.cells #[a,b] U):=by
  rw [hb.block _ (by simp),heap_alloc2_new]
 refine ⟨?_,?_,?_,?_,?_,?_,?_,?_,?_,?_,Lib.hid ⟨h1,h2,?_⟩⟩
 all_goals try (rw [zao h1];rfl)
 ·exact (((Below.refl _ W).alloc (Nat.le_refl _) _).alloc (by simp) _).trans (hb.mono (by simp;omega))
 ·have:=hb.size;simp at this;omega
theorem zlg {w0:World} (hM:LM w0) (hTS:LS w0) (s:List UInt8) (v_:Val) (qa qb:Int) (l:List UInt8) (hv:OkV v_) (hq0:0≤qa∧qa<65536) (hq1:0≤qb∧qb<65536) (hl:l.length<9223372036854775808) :
  Fun (KN w0) Tryz.prog 4 [.o (.c (pS s)),.o (.g [pV (.int .u8 v_.1),pI v_.2.1,pS v_.2.2.1,pLs cI v_.2.2.2.1,pI v_.2.2.2.2.1.1,pI v_.2.2.2.2.1.2.1,pI v_.2.2.2.2.1.2.2,pLs cPl v_.2.2.2.2.2.1,pLs cI v_.2.2.2.2.2.2]),.o (.g [pV (.int .u16 qa),pV (.int .u16 qb)]),.o (.c (pLs cB l))] (.o (.c (pV (.bool true)))):=by
 intro W D vs hs hf
 match vs,hs with
 | [v0,v1,v2,v3],⟨h0,⟨cs,e1,h1⟩,⟨qs,e2,h2⟩,h3,_⟩ =>
  subst e1 e2
  obtain rfl:v0=.string ⟨s.toArray⟩:=h0
  obtain ⟨y1,y2,eq_,rfl,rfl⟩:∃y1 y2,qs.toList=[y1,y2]∧y1=.int .u16 qa∧y2=.int .u16 qb:=by
   match hqs:qs.toList,h2 with
   | [y1,y2],h2=>exact ⟨y1,y2,rfl,h2.1,h2.2.1⟩
   | [],h2=>exact h2.elim
   | [_],h2=>exact h2.2.elim
   | _::_::_::_,h2=>exact h2.2.2.elim
  obtain rfl:qs=#[.int .u16 qa,.int .u16 qb]:=by rw [← Array.toArray_toList (xs:=qs),eq_]
  clear eq_ h2 hs
  obtain ⟨c0,c1,c2,c3,c4,c5,c6,c7,c8,rfl⟩:∃c0 c1 c2 c3 c4 c5 c6 c7 c8,cs=#[c0,c1,c2,c3,c4,c5,c6,c7,c8]:=by
   have hlen:=zaa h1
   match hcs:cs.toList,hlen with
   | [c0,c1,c2,c3,c4,c5,c6,c7,c8],_=>exact ⟨c0,c1,c2,c3,c4,c5,c6,c7,c8,by rw [← Array.toArray_toList (xs:=cs),hcs]⟩
  have hF9:FineAll (KN w0) [pV (.int .u8 v_.1),pI v_.2.1,pS v_.2.2.1,pLs cI v_.2.2.2.1,pI v_.2.2.2.2.1.1,pI v_.2.2.2.2.1.2.1,pI v_.2.2.2.2.1.2.2,pLs cPl v_.2.2.2.2.2.1,pLs cI v_.2.2.2.2.2.2]:=⟨zc,zc,zc,(zi zl),zc,zc,zc,(zi zo),(zi zl),trivial⟩
  have hval:∀(W':World) (D':Dat),Below W.heap.size W W'→(∀q,D q→D' q)→okl [pV (.int .u8 v_.1),pI v_.2.1,pS v_.2.2.1,pLs cI v_.2.2.2.1,pI v_.2.2.2.2.1.1,pI v_.2.2.2.2.1.2.1,pI v_.2.2.2.2.1.2.2,pLs cPl v_.2.2.2.2.2.1,pLs cI v_.2.2.2.2.2.2] [c0,c1,c2,c3,c4,c5,c6,c7,c8] W' D':=fun W' D' hb hd =>
   zd6 (K:=KN w0) (S:=fun _=>False) (fun q h=>h.elim) (zpa hb) hd hF9 h1
  have hdl:=hf.dlt
  have SA:=Lib.hid (fun (W':World) (D':Dat) (hb:Below W.heap.size W W') (hd:∀q,D' q→q<W'.heap.size)=>zsn hM hTS W' D' [] trivial ⟨hf.bel.trans (hb.mono hf.bel.size),hd⟩)
  have OW:=Lib.hid (fun (W':World) (D':Dat) (hb:Below W.heap.size W W') (hd:∀q,D' q→q<W'.heap.size) (hD:∀q,D q→D' q)=>v_own v_ _ rfl hv W' D' [.agg #[c0,c1,c2,c3,c4,c5,c6,c7,c8]] ⟨⟨#[c0,c1,c2,c3,c4,c5,c6,c7,c8],rfl,hval W' D' hb hD⟩,trivial⟩ ⟨hf.bel.trans (hb.mono hf.bel.size),hd⟩)
  have B0:Below W.heap.size W ((W.alloc (Obj.cells #[c0,c1,c2,c3,c4,c5,c6,c7,c8] 27)).alloc (Obj.cells #[Value.int IntKind.u16 qa,Value.int IntKind.u16 qb] 42)):=((Below.refl _ W).alloc (Nat.le_refl _) _).alloc (by simp) _
  have hbp:0<(byV (v_.1.tmod 6) v_).length:=List.length_pos_iff.2 (by_ne (v_.1.tmod 6) v_)
  have hbl:=zvb (v_.1.tmod 6) hv
  generalize hby:byV (v_.1.tmod 6) v_=own at hbp hbl OW
  have hcv:=fun w x=>run_bytes_of_string (P:=Tryz.prog) w 9 43 5 x Tryz.underlying9 Tryz.underlying43 Tryz.underlying5
  have CE:=Lib.hid (fun (W1:World) (hb:Below ((W.alloc (Obj.cells #[c0,c1,c2,c3,c4,c5,c6,c7,c8] 27)).alloc (Obj.cells #[Value.int IntKind.u16 qa,Value.int IntKind.u16 qb] 42)).heap.size ((W.alloc (Obj.cells #[c0,c1,c2,c3,c4,c5,c6,c7,c8] 27)).alloc (Obj.cells #[Value.int IntKind.u16 qa,Value.int IntKind.u16 qb] 42)) W1)=>zvd hb)
  go_enter Tryz.func4,Tryz.ntmps4
  go_upto_region 5 with (first
   | (go_at_call 9;(with_reducible refine (SA.out _ D B0 (fun q hq=>Nat.lt_of_lt_of_le (hdl q hq) B0.size)).mono ?_);rintro e W1 ⟨v,D1,rfl,hr,hk1⟩;obtain rfl:v=.bool true:=hr;clear SA;obtain ⟨x0,x1,x2,x3,x4,x5,x6,x7,x8,hb1,HC⟩:=CE.out W1 hk1.bel)
   | (go_at_call 15;(with_reducible refine (OW.out W1 D1 hb1 hk1.dlt hk1.dm).mono ?_);rintro e W2 ⟨v,D2,rfl,hr,hk2⟩;obtain rfl:v=.string ⟨own.toArray⟩:=hr;clear OW x0 x1 x2 x3 x4 x5 x6 x7 x8)
   | fail "no arm")
  obtain ⟨K,hK,hKl⟩:=zvp hq0 hbp
  have hkk:=hK
  rw [wri (by omega)] at hkk
  have hw0:IntKind.i64.wrap qa=qa:=wri (by omega)
  obtain ⟨hh1,hh2,hsz1⟩:=HC
  obtain ⟨z0,z1,zk,zf,hh3,hh4,hb3⟩:=zqy (a:=.int .u16 qa) (b:=.int .u16 qb) hk2.bel hh1 hh2 hsz1 own hKl (grownCap W2 own.length 0 5)
  have zb:=own[K].toBitVec.isLt
  generalize hW3:World.drew _=W3 at hh3 hh4 hb3 z0 z1 zk zf ⊢
  have hcap:=grownCap_ge W2 own.length 0 5
  generalize grownCap W2 own.length 0 5=cap at *
  clear hcv CE hW3
  have hne:own.length≠0:=by omega
  have hnz:(own.length:Int)≠0:=by omega
  go_still_tail 13,(by kernel_rfl)
  change wpList _ _ _ _ _ W3.drew
  replace zk:W3.drew.cell? ⟨W2.heap.size,K,none⟩=some (.int .u8 (own[K].toNat:Int)):=zk
  replace zf:W3.drew.frozen? ⟨W2.heap.size,K,none⟩=false:=zf
  replace hh3:W3.drew.heap[W.heap.size]?=_:=hh3
  replace hh4:W3.drew.heap[W2.heap.size]?=_:=hh4
  replace hb3:=hb3.drew
  clear z0 z1
  generalize W3.drew=W4 at hh3 hh4 hb3 zk zf ⊢
  rename_i K1 hK1
  have HK:=Lib.hid hK1
  clear hK1
  go_wp2
  refine HK.out _ _ ?_
  clear HK
  obtain ⟨bb,hbb⟩:=zsz (own[K].toNat:Int) (qb%256)
  simp only [hbb]
  have hs1:=hb1.size
  have hs2:=hk2.bel.size
  have hs4:=hb3.size
  have HB4:Below W.heap.size W W4:=(hb1.trans (hk2.bel.mono hb1.size)).trans (hb3.mono (by omega))
  have HB:Below W.heap.size W (W4.setCell ⟨W2.heap.size,K,none⟩ (.int .u8 (bb.toNat:Int))):=HB4.setCell (by show W.heap.size≤W2.heap.size;omega) _
  have g1:(W4.setCell ⟨W2.heap.size,K,none⟩ (.int .u8 (bb.toNat:Int))).heap[W.heap.size]?=some (.cells #[c0,c1,c2,c3,c4,c5,c6,c7,c8] 27):=by
   rw [heap_setCell_other _ _ _ _ (by show W.heap.size≠W2.heap.size;omega)];exact hh3
  have g2:=Lib.heap_setCell_same (i:=K) hh4 (.int .u8 (bb.toNat:Int))
  have g3:=(Array.getElem?_eq_some_iff.1 g2).1
  generalize W4.setCell _ _=W6 at HB g1 g2 g3 ⊢
  have hd1:=hk1.dn
  have hsz1':((W.alloc (Obj.cells #[c0,c1,c2,c3,c4,c5,c6,c7,c8] 27)).alloc (Obj.cells #[.int .u16 qa,.int .u16 qb] 42)).heap.size=W.heap.size+2:=by simp
  rw [hsz1'] at hd1
  have hm6:∀q,D q→(D2 q∨q=W2.heap.size):=fun q h=>.inl (hk2.dm q (hk1.dm q h))
  have hn6:∀q,(D2 q∨q=W2.heap.size)→D q∨W.heap.size+1≤q:=by
   rintro q (h | h)
   ·rcases hk2.dn q h with h | h
    ·rcases hd1 q h with h | h
     ·exact .inl h
     ·exact .inr (by omega)
    ·exact .inr (by omega)
   ·exact .inr (by omega)
  have hval6:=hval W6 (fun q=>D2 q∨q=W2.heap.size) HB hm6
  have hl6:pLs cB l v3 W6 (fun q=>D2 q∨q=W2.heap.size):=(zi (K:=KN w0) (zE rfl)).mv (S:=fun _=>False) (fun q h=>h.elim) (zpa HB) hm6 h3
  have hck:[c0,c1,c2,c3,c4,c5,c6,c7,c8].all (KN w0).ck=true:=zo5 hF9 hval6
  have hT:pLs cB (own.set K bb) (.slice (some ⟨W2.heap.size,0,none⟩) own.length cap) W6 (fun q=>D2 q∨q=W2.heap.size):=
   .inr ⟨W2.heap.size,0,cap,_,_,_,by rw [List.length_set],.inr rfl,g2,zui _ hKl _ _ _ _,by rw [List.length_set];exact hcap⟩
  have e0:(⟨s.toArray⟩:ByteArray).extract 0 (min (s.length:Int) 200).toNat=⟨(s.take 200).toArray⟩:=zuI s
  rw [e0]
  have hlen0:(s.take 200).length≤200:=by rw [List.length_take];omega
  generalize s.take 200=s2 at hlen0 e0 ⊢
  refine (congrArg (fun c=>Code.wp Tryz.prog c _ _ _) (?_:zmg=_)).mp ?_
  ·kernel_rfl
  refine zqs (w0:=w0) s2 v_ (own.set K bb) l hM hTS (own.set K bb) (byV (v_.1.tmod 6) v_) (byV (v_.1.tmod 6) v_++s2) [s2,own.set K bb,byV (v_.1.tmod 6) v_++s2] 3 rfl rfl rfl rfl rfl hv (by rw [hby];omega) ⟨W6,⟨fun b=>if b=800 then some W.heap.size else none,fun _=>(0,0),fun q=>D2 q∨q=W2.heap.size⟩,⟨ntOf Tryz.prog 4,[800],[]⟩⟩ rfl
   (zqp hM hTS s2 v_ (own.set K bb) l (own.set K bb) (byV (v_.1.tmod 6) v_) (byV (v_.1.tmod 6) v_++s2) [s2,own.set K bb,byV (v_.1.tmod 6) v_++s2] 3 rfl rfl rfl rfl rfl rfl rfl rfl rfl rfl rfl rfl rfl rfl rfl rfl rfl _ rfl hl (Nat.le_refl 3) rfl ?_) _ _ _ ?_ ?_
  ·intro x hx
   simp only [List.mem_cons,List.not_mem_nil,or_false] at hx
   rcases hx with rfl | rfl | rfl
   ·omega
   ·rw [List.length_set];omega
   ·rw [List.length_append,hby];omega
  ·refine ⟨by kernel_rfl,rfl,⟨fun b=>if b=800 then some W.heap.size else none,fun _=>(0,0),fun q=>D2 q∨q=W2.heap.size⟩,⟨⟨?_,?_,hf.bel.trans (HB.mono hf.bel.size),?_,?_⟩,Oth.refl _ _,?_,fun _ _ _=>Loc.same.rfl,fun _ _ _ h=>.inl h,fun _ h=>h,fun _ h=>.inl h⟩,?_⟩
   ·intro b q hq
    dsimp only at hq
    split at hq
    ·cases hq;omega
    ·cases hq
   ·intro b c q hb hc
    dsimp only at hb hc
    split at hb
    ·split at hc
     ·omega
     ·cases hc
    ·cases hb
   ·intro b q hq hD
    dsimp only at hq
    split at hq
    ·cases hq
     rcases hn6 _ hD with h | h
     ·exact absurd (hdl _ h) (by omega)
     ·omega
    ·cases hq
   ·rintro q (h | h)
    ·exact Nat.lt_of_lt_of_le (hk2.dlt q h) (by omega)
    ·omega
   ·intro b hb q hq
    dsimp only at hq
    split at hq
    ·rename_i h;subst h;simp at hb
    ·cases hq
   ·intro A hA
    simp only [List.mem_cons,List.not_mem_nil,or_false] at hA
    rcases hA with rfl | rfl | rfl | rfl | rfl | rfl | rfl
    ·exact (rfl:Value.string ⟨s2.toArray⟩=_)
    ·exact hl6
    ·exact ⟨W.heap.size,rfl,rfl⟩
    ·exact (rfl:Value.bool false=_)
    ·exact (rfl:Value.bool true=_)
    ·exact hT
    ·exact ⟨W.heap.size,_,rfl,g1,hval6,hck,by kernel_rfl,hf.bel.size⟩
  ·rintro a' W' ⟨h1',hd',β',hE,hA⟩
   obtain ⟨v,hv1,hv2⟩:=zeW (P:=Tryz.prog) (x:=.o (.c (.k (.bool true)))) hA (fn:=Tryz.f4) (by kernel_rfl)
   refine ⟨hd',v,hv1,v,β'.D,rfl,hv2,⟨Oth.below (S:=fun _=>False) ((zpa HB).trans hE.oth ?_) (fun q h=>h.elim),fun q hq=>hE.dm q (hm6 q hq),?_,hE.geo.dlt⟩⟩
   ·rintro q ⟨b,hb,hq⟩ hlt
    dsimp only at hq
    split at hq
    ·cases hq;omega
    ·cases hq
   ·intro q hq
    rcases hE.dn q hq with h | h
    ·rcases hn6 q h with h | h
     ·exact .inl h
     ·exact .inr (by omega)
    ·have h5:=HB.size
     exact .inr (Nat.le_trans h5 h)
theorem zjO {w0:World} (hM:LM w0) (hTS:LS w0) (s:List UInt8) (v_:Val) (q2:Int×Int) (l:List UInt8) (hv:OkV v_) (hq:(0≤q2.1∧q2.1<65536)∧0≤q2.2∧q2.2<65536) (hl:l.length<9223372036854775808) :
  Fun (KN w0) Tryz.prog 4 [.o (.c (pS s)),.o (.g [pV (.int .u8 v_.1),pI v_.2.1,pS v_.2.2.1,pLs cI v_.2.2.2.1,pI v_.2.2.2.2.1.1,pI v_.2.2.2.2.1.2.1,pI v_.2.2.2.2.1.2.2,pLs cPl v_.2.2.2.2.2.1,pLs cI v_.2.2.2.2.2.2]),.o (.g [pV (.int .u16 q2.1),pV (.int .u16 q2.2)]),.o (.c (pLs cB l))] (.o (.c (pV (.bool true)))):=
 zlg hM hTS s v_ q2.1 q2.2 l hv hq.1 hq.2 hl
end Go.Proofs.YtjcegdldgjphiaaGreatDoor
