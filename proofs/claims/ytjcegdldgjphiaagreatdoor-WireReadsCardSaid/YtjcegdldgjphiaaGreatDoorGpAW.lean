/-
  Merged: WrH, RtDat, WrI, WrJ, WrK, WrRr, WrL, WrM, WrP.
-/
import Derived.Test.YtjcegdldgjphiaaGreatDoorGpAV
import Derived.Test.YtjcegdldgjphiaaGreatDoorGpAP
set_option linter.unusedSimpArgs false
set_option linter.unusedVariables false
set_option maxRecDepth 100000
namespace Go.Proofs.YtjcegdldgjphiaaGreatDoor
open Go.RowKit Go.Shelf
def cPl (p:Pl):List Pred:=[pI p.1.1,pI p.1.2.1,pI p.1.2.2,pI p.2]
theorem zo {w0:World} (x:Pl):FineAll (KN w0) (cPl x):=⟨zc,zc,zc,zc,trivial⟩
structure w_lp_l_T where
 s:St
 o:(List Pl)
def qJ:List Atom:=[.sl 0 (.o (.c (.p 900 0))),.sl 1 (.o (.c (.m 84 900 0))),.sl 4 (.o (.c (.k (.slice none 0 0)))),.sl 5 (yh 2),.sl 6 (.o (.c (.gr 901))),.sl 7 (.o (.c (.p 900 0))),.sl 8 (yh 2),.bx 900 62 [.h 5,.h 6],.gl 901 69 4 1]
def zaH:LoopS:=⟨3,[.sl 0 (.o (.c (.p 900 0))),.sl 1 (.o (.c (.m 84 900 0))),.sl 4 (.o (.c (.k (.slice none 0 0)))),.sl 5 (yh 2),.sl 6 (.o (.c (.gr 901))),.sl 7 (.o (.c (.p 900 0))),.sl 8 (yh 2),.bx 900 62 [.h 3,.h 4],.gl 901 69 4 0],(.x 0),[.sl 0 (.o (.c (.p 900 0))),.sl 1 (.o (.c (.m 84 900 0))),.sl 4 (.o (.c (.k (.slice none 0 0)))),.sl 5 (yh 2),.sl 6 (.o (.c (.gr 901))),.sl 7 (.o (.c (.p 900 0))),.sl 8 (yh 2),.bx 900 62 [.h 5,.h 6],.gl 901 69 4 1]⟩
abbrev zyF:List (Nat×Ent):=(1005001,.op (.len [25] 3) [LF (.gr 901)] [.gl 901 69 4 1] (yh 7))::(1005003,.bin .lss 3 (yh 7) (yh 2) (yh 8))::[]
abbrev zyG:List (Nat×Ent):=(10008,.fb 8 true)::(1005006,.call ⟨23,[.o (.c (.p 900 0))],[.bx 900 62 [.h 5,.h 6]],yh 9,[.bx 900 62 [.h 5,.h 6]]⟩)::(1005007,.un .not (yh 9) (yh 10))::zyF
abbrev zzM:List (Nat×Ent):=(10010,.fb 10 true)::(1005011,.call ⟨84,[.o (.c (.p 900 0))],[.bx 900 62 [.h 5,.h 6]],.o (.g [.h 11,.h 12,.h 13,.h 14]),[.bx 900 62 [.h 15,.h 16]]⟩)::(1005013,.app 69 4 901 1 2 (.o (.c (.s 5012 0 1 1))) [.bx 5012 69 [.h 11,.h 12,.h 13,.h 14]] false)::zyG
abbrev zzN:List (Nat×Ent):=(10010,.fb 10 false)::zyG
abbrev zzO:List (Nat×Ent):=(10008,.fb 8 false)::zyF
theorem ziH {w0:World} (st:St) (v1:Int) (v2:St) (s2:St) (o2:(List Pl)) {F:Fact} (u2:F.c 2=pI v1) (u3:F.c 3=pS (lfO v2)) (u4:F.c 4=pB (bdO v2)) (u5:F.c 5=pS (lfO s2)) (u6:F.c 6=pB (bdO s2)) (ug0:F.g 0=pG cPl ([]:List Pl)) (ug1:F.g 1=pG cPl o2) (R:Frm) (hR:R.pm=⟨ntOf Tryz.prog 83,[900],[]⟩) (hn0:0≤v1) (hb:v1≤1000000) (hO:s2=(rdN rdP v1.toNat [] v2).2∧o2=(rdN rdP v1.toNat [] v2).1):zj (KN w0) Tryz.prog F R zaH (lp Tryz.prog 83 0):=by
 refine zG (T:=w_lp_l_T) (fun t=>FL [pS (lfO st),pB (bdO st),pI v1,pS (lfO v2),pB (bdO v2),pS (lfO t.s),pB (bdO t.s)] [pG cPl ([]:List Pl),pG cPl t.o]) (fun ⟨s,o⟩=>o.length≤v1.toNat∧rdN rdP v1.toNat [] v2=rdN rdP (v1.toNat - o.length) o s) (fun ⟨s,o⟩=>v1.toNat - o.length) { s:=v2,o:=([]:List Pl) } qJ ⟨Nat.zero_le _,rfl⟩ (LZ ⟨z_c yy,z_c yy,z_c yy,z_c (LU u2),z_c yy,z_c yy,z_c (LU u2),z_b ⟨LU u3,LU u4,trivial⟩,z_gq ug0 rfl,trivial⟩) rfl fun t hJ=>?_
 obtain ⟨s,o⟩:=t
 dsimp only at hJ
 obtain ⟨hle,hJ⟩:=hJ
 obtain ⟨v501,e501⟩:=LX ((o.length:Int))
 obtain ⟨v502,e502⟩:=LX (decide (v501<v1))
 let A1:List Pred→List Pred:=fun t=>pS (lfO st)::pB (bdO st)::pI v1::pS (lfO v2)::pB (bdO v2)::pS (lfO s)::pB (bdO s)::pI v501::pB v502::t
 have f1:LA (KN w0) A1:=fun t h=>⟨zc,zc,zc,zc,zc,zc,zc,zc,zc,h⟩
 let G1:List LPred→List LPred:=fun t=>pG cPl ([]:List Pl)::pG cPl o::t
 have g1:LG (KN w0) G1:=fun t h=>⟨(zy zo),(zy zo),h⟩
 have T1:LH (KN w0) Tryz.prog A1 G1 zyF:=fun t u=>⟨zfS (c:=cPl) (by kernel_rfl) (fun _=>rfl) (by decide) rfl (za (by rw [e501];rfl)),e_bin (za rfl) (za rfl) (za rfl) (r_cmp (LO e502)),trivial⟩
 cases h503:v502 with
 | true =>
  obtain ⟨v504,e504⟩:=LX (bdO s)
  obtain ⟨v505,e505⟩:=LX (!v504)
  let A2:=fun t=>A1 (pB v504::pB v505::t)
  have f2:LA (KN w0) A2:=fun t h=>f1 _ ⟨zc,zc,h⟩
  have T2:LH (KN w0) Tryz.prog A2 G1 zyG:=fun t u=>⟨e_fbv h503,b_con (pan:=false) (w_bad s v504 e504),e_un (za rfl) (za rfl) (fun W=>by rw [← e505];exact r_not W),T1 _ _⟩
  cases h506:v505 with
  | true =>
   obtain ⟨v507,e507⟩:=LX ((rdP s).1)
   obtain ⟨v508,e508⟩:=LX ((rdP s).2)
   obtain ⟨v509,e509⟩:=LX (o++[v507])
   have s510:(o.length+1)*4≤1099511627776:=by (have d:=LD e502 h503;omega)
   let A3:=fun t=>A2 (pI v507.1.1::pI v507.1.2.1::pI v507.1.2.2::pI v507.2::pS (lfO v508)::pB (bdO v508)::t)
   have f3:LA (KN w0) A3:=fun t h=>f2 _ ⟨zc,zc,zc,zc,zc,zc,h⟩
   let G3:=fun t=>G1 (pG cPl v509::t)
   have g3:LG (KN w0) G3:=fun t h=>g1 _ ⟨(zy zo),h⟩
   have T3:LH (KN w0) Tryz.prog A3 G3 zzM:=fun t u=>⟨e_fbv h506,b_con (pan:=false) (zqj s v507 v508 e507 e508),zfR (c:=cPl) (x:=v507) zo (fun _=>rfl) (.inr ⟨rfl,rfl⟩) (by rw [e509];rfl) rfl (fun _ _ _ h=>h) rfl s510,T2 _ _⟩
   refine .inr ⟨⟨v508,v509⟩,?_,?_,goes (x:=.n) (y:=.n) (Fb:=FL (A3 []) (G3 [])) (stb:=qJ) (tl:=[.sl 0 (.o (.c (.p 900 0))),.sl 1 (.o (.c (.m 84 900 0))),.sl 4 (.o (.c (.k (.slice none 0 0)))),.sl 5 (yh 2),.sl 6 (.o (.c (.gr 901))),.sl 7 (.o (.c (.p 900 0))),.sl 8 (yh 2),.bx 900 62 [.h 15,.h 16],.gl 901 69 4 2]) (C:=zzM) (H:=.no) 5000 (LZ ⟨z_c yy,z_c yy,z_c yy,z_c yy,z_c yy,z_c yy,z_c yy,z_b ⟨yy,yy,trivial⟩,z_gl (fun _ _ _ h=>h),trivial⟩) (zg (f3 [] trivial) (g3 [] trivial)) (T3 [] []) mixed hR trivial (fun _ _ _ hs=>by cases hs) (by kernel_rfl) rfl (LZ ⟨z_c yy,z_c yy,z_c yy,z_c yy,z_c yy,z_c yy,z_c yy,z_b ⟨fun β v W h=>(zd rfl β v W).2 h,fun β v W h=>(zd rfl β v W).2 h,trivial⟩,z_gq rfl rfl,trivial⟩)⟩
   all_goals (have d:=LD e502 h503;have hz:bdO s=false:=(by rw [e504];cases v504<;>simp_all);obtain ⟨m,hm⟩:=qn.1 hz;have hl:v509.length=o.length+1:=(by rw [← e509,List.length_append];rfl))
   ·show v1.toNat - v509.length<v1.toNat - o.length
    omega
   ·refine ⟨by show v509.length≤_;omega,?_⟩
    show _=rdN rdP (v1.toNat - v509.length) v509 v508
    rw [hJ,show v1.toNat - o.length=(v1.toNat - v509.length)+1 by omega,hm,rdN,← hm,e507,e508,e509]
  | false =>
   have T4:LH (KN w0) Tryz.prog A2 G1 zzN:=fun t u=>⟨e_fbv h506,T2 _ _⟩
   have hq:((s)=s2)∧((o)=o2)∧True:=by
    refine ⟨?_,?_,trivial⟩
    all_goals (have hz:s=none:=q9.1 (by rw [e504];cases v504<;>simp_all);rw [hJ,hz,zhj] at hO)
    ·rw [hz,hO.1]
    ·rw [hO.2]
   obtain ⟨q0,q1,-⟩:=hq
   exact .inl (goes (x:=(.x 0)) (y:=(.x 0)) (Fb:=FL (A2 []) (G1 [])) (stb:=qJ) (tl:=[.sl 0 (.o (.c (.p 900 0))),.sl 1 (.o (.c (.m 84 900 0))),.sl 4 (.o (.c (.k (.slice none 0 0)))),.sl 5 (yh 2),.sl 6 (.o (.c (.gr 901))),.sl 7 (.o (.c (.p 900 0))),.sl 8 (yh 2),.bx 900 62 [.h 5,.h 6],.gl 901 69 4 1]) (C:=zzN) (H:=.no) 5000 (LZ ⟨z_c yy,z_c yy,z_c yy,z_c yy,z_c yy,z_c yy,z_c yy,z_b ⟨yy,yy,trivial⟩,z_gl (fun _ _ _ h=>h),trivial⟩) (zg (f2 [] trivial) (g1 [] trivial)) (T4 [] []) mixed hR trivial (fun _ _ _ hs=>by cases hs) (by kernel_rfl) rfl (LZ ⟨z_c yy,z_c yy,z_c yy,z_c (LV u2),z_c yy,z_c yy,z_c (LV u2),z_b ⟨fun β v W h=>(zd u5 β v W).2 (by rw [← q0];exact h),fun β v W h=>(zd u6 β v W).2 (by rw [← q0];exact h),trivial⟩,z_gq rfl (by rw [ug1,← q1];rfl),trivial⟩))
 | false =>
  have T5:LH (KN w0) Tryz.prog A1 G1 zzO:=fun t u=>⟨e_fbv h503,T1 _ _⟩
  have hq:((s)=s2)∧((o)=o2)∧True:=by
   refine ⟨?_,?_,trivial⟩
   all_goals (have d:=LE e502 h503;rw [hJ,show v1.toNat - o.length=0 by omega,rdN] at hO)
   ·rw [hO.1]
   ·rw [hO.2]
  obtain ⟨q0,q1,-⟩:=hq
  exact .inl (goes (x:=(.x 0)) (y:=(.x 0)) (Fb:=FL (A1 []) (G1 [])) (stb:=qJ) (tl:=[.sl 0 (.o (.c (.p 900 0))),.sl 1 (.o (.c (.m 84 900 0))),.sl 4 (.o (.c (.k (.slice none 0 0)))),.sl 5 (yh 2),.sl 6 (.o (.c (.gr 901))),.sl 7 (.o (.c (.p 900 0))),.sl 8 (yh 2),.bx 900 62 [.h 5,.h 6],.gl 901 69 4 1]) (C:=zzO) (H:=.no) 5000 (LZ ⟨z_c yy,z_c yy,z_c yy,z_c yy,z_c yy,z_c yy,z_c yy,z_b ⟨yy,yy,trivial⟩,z_gl (fun _ _ _ h=>h),trivial⟩) (zg (f1 [] trivial) (g1 [] trivial)) (T5 [] []) mixed hR trivial (fun _ _ _ hs=>by cases hs) (by kernel_rfl) rfl (LZ ⟨z_c yy,z_c yy,z_c yy,z_c (LV u2),z_c yy,z_c yy,z_c (LV u2),z_b ⟨fun β v W h=>(zd u5 β v W).2 (by rw [← q0];exact h),fun β v W h=>(zd u6 β v W).2 (by rw [← q0];exact h),trivial⟩,z_gq rfl (by rw [ug1,← q1];rfl),trivial⟩))
abbrev zz2:List (Nat×Ent):=(1000002,.call ⟨81,[.o (.c (.p 900 0))],[.bx 900 62 [.h 0,.h 1]],yh 2,[.bx 900 62 [.h 3,.h 4]]⟩)::(1001006,.call ⟨23,[.o (.c (.p 900 0))],[.bx 900 62 [.h 5,.h 6]],yh 7,[.bx 900 62 [.h 5,.h 6]]⟩)::[]
abbrev zAy:List (Nat×Ent):=(10007,.fb 7 true)::zz2
abbrev zAz:List (Nat×Ent):=(10007,.fb 7 false)::zz2
theorem w_lp {w0:World} (st:St) (r:List Pl) (st2:St) (hr:(rdL rdP st).1=r) (hs:(rdL rdP st).2=st2) (hle:leftN (rdC st).2≤1000000):BFun false (KN w0) Tryz.prog 83 [.o (.c (.p 0 0)),.o (.c (.m 84 0 0))] [(62,[.d (pS (lfO st)),.d (pB (bdO st))])] (.o (.c (.d (pLs cPl r)))) [(62,[.d (pS (lfO st2)),.d (pB (bdO st2))])]:=by
 obtain ⟨v1,e1⟩:=LX ((rdC st).1)
 obtain ⟨v2,e2⟩:=LX ((rdC st).2)
 obtain ⟨s2,o2,hO_w_lp_l⟩:∃(s2:St) (o2:(List Pl)),s2=(rdN rdP v1.toNat [] v2).2∧o2=(rdN rdP v1.toNat [] v2).1:=⟨_,_,rfl,rfl⟩
 obtain ⟨v3,e3⟩:=LX (bdO s2)
 let A1:List Pred→List Pred:=fun t=>pS (lfO st)::pB (bdO st)::pI v1::pS (lfO v2)::pB (bdO v2)::pS (lfO s2)::pB (bdO s2)::pB v3::pLs cPl o2::t
 have f1:LA (KN w0) A1:=fun t h=>⟨zc,zc,zc,zc,zc,zc,zc,zc,(zi zo),h⟩
 let G1:List LPred→List LPred:=fun t=>pG cPl ([]:List Pl)::pG cPl o2::t
 have g1:LG (KN w0) G1:=fun t h=>⟨(zy zo),(zy zo),h⟩
 have T1:LH (KN w0) Tryz.prog A1 G1 zz2:=fun t u=>⟨b_con (pan:=false) (zbG st v1 v2 e1 e2),b_con (pan:=false) (w_bad s2 v3 e3),trivial⟩
 cases h4:v3 with
 | true =>
  have T2:LH (KN w0) Tryz.prog A1 G1 zAy:=fun t u=>⟨e_fbv h4,T1 _ _⟩
  have L_w_lp_l:∀R:Frm,R.pm=⟨ntOf Tryz.prog 83,[900],[]⟩→zj (KN w0) Tryz.prog (FL (A1 []) (G1 [])) R zaH (lp Tryz.prog 83 0):=fun R hR=>ziH st v1 v2  s2 o2 rfl rfl rfl rfl rfl rfl rfl R hR (by rw [← e1];exact zaR st) (by have h0:=zcI st;have h1:=hle;rw [← e1];have h2:=zaR st;omega) hO_w_lp_l
  have r0:r=[]:=by
   have hb:s2=none:=q9.1 (e3.trans h4)
   have hL:rdL rdP st=([],s2):=by
    unfold rdL
    rw [e1,e2,← hO_w_lp_l.1,hb]
   first | rw [← hr,hL] | rw [← hs,hL]
  have r1:st2=s2:=by
   have hb:s2=none:=q9.1 (e3.trans h4)
   have hL:rdL rdP st=([],s2):=by
    unfold rdL
    rw [e1,e2,← hO_w_lp_l.1,hb]
   first | rw [← hr,hL] | rw [← hs,hL]
  rw [r0,r1];exact BFun.fin (r:=.o (.c (.d (pV (.slice none 0 0))))) (con_b (pan:=false) (zN (F:=FL (A1 []) (G1 [])) (C:=zAy) (k:=⟨83,[.o (.c (.p 900 0)),.o (.c (.m 84 900 0))],[.bx 900 62 [.h 0,.h 1]],.o (.c (.k (.slice none 0 0))),[.bx 900 62 [.h 5,.h 6]]⟩) ⟨[zaH],[⟨2,[.sl 6 (.o (.c (.k (.slice none 0 0)))),.gn 901],[.sl 6 (.o (.c (.gr 901))),.gl 901 69 4 0],[]⟩,⟨5,.gl 901 69 4 1::[6].map (fun s=>.sl s (.o (.c (.gr 901)))),[6].map (fun s=>.sl s (yh 8)),[901]⟩],0⟩ [901] 0 (zg (f1 [] trivial) (g1 [] trivial)) (T2 [] []) mixed ⟨zaW (c:=cPl) rfl,zbw (c:=cPl) (fun _=>rfl) (by decide) zo rfl rfl,trivial⟩ (fun R hR p hp s hs=>by
   have hl:zD (zR Tryz.prog 83)=[(3,lp Tryz.prog 83 0)]:=by kernel_rfl
   rw [hl] at hp
   simp only [List.mem_cons,List.not_mem_nil,or_false] at hp
   rcases hp with rfl
   ·have e:s=zaH:=(Option.some.inj hs).symm
    subst e;exact L_w_lp_l R hR) (by kernel_rfl))) (fun _ _ _ _ h=>zij h)
 | false =>
  have T3:LH (KN w0) Tryz.prog A1 G1 zAz:=fun t u=>⟨e_fbv h4,T1 _ _⟩
  have L_w_lp_l:∀R:Frm,R.pm=⟨ntOf Tryz.prog 83,[900],[]⟩→zj (KN w0) Tryz.prog (FL (A1 []) (G1 [])) R zaH (lp Tryz.prog 83 0):=fun R hR=>ziH st v1 v2  s2 o2 rfl rfl rfl rfl rfl rfl rfl R hR (by rw [← e1];exact zaR st) (by have h0:=zcI st;have h1:=hle;rw [← e1];have h2:=zaR st;omega) hO_w_lp_l
  have r0:r=o2:=by
   obtain ⟨m,hm⟩:=qn.1 (e3.trans h4)
   have hL:rdL rdP st=(o2,s2):=by
    unfold rdL
    rw [e1,e2,← hO_w_lp_l.1,← hO_w_lp_l.2,hm]
   first | rw [← hr,hL] | rw [← hs,hL]
  have r1:st2=s2:=by
   obtain ⟨m,hm⟩:=qn.1 (e3.trans h4)
   have hL:rdL rdP st=(o2,s2):=by
    unfold rdL
    rw [e1,e2,← hO_w_lp_l.1,← hO_w_lp_l.2,hm]
   first | rw [← hr,hL] | rw [← hs,hL]
  rw [r0,r1];exact con_b (pan:=false) (zN (F:=FL (A1 []) (G1 [])) (C:=zAz) (k:=⟨83,[.o (.c (.p 900 0)),.o (.c (.m 84 900 0))],[.bx 900 62 [.h 0,.h 1]],yh 8,[.bx 900 62 [.h 5,.h 6]]⟩) ⟨[zaH],[⟨2,[.sl 6 (.o (.c (.k (.slice none 0 0)))),.gn 901],[.sl 6 (.o (.c (.gr 901))),.gl 901 69 4 0],[]⟩,⟨5,.gl 901 69 4 1::[6].map (fun s=>.sl s (.o (.c (.gr 901)))),[6].map (fun s=>.sl s (yh 8)),[901]⟩],0⟩ [901] 0 (zg (f1 [] trivial) (g1 [] trivial)) (T3 [] []) mixed ⟨zaW (c:=cPl) rfl,zbw (c:=cPl) (fun _=>rfl) (by decide) zo rfl rfl,trivial⟩ (fun R hR p hp s hs=>by
   have hl:zD (zR Tryz.prog 83)=[(3,lp Tryz.prog 83 0)]:=by kernel_rfl
   rw [hl] at hp
   simp only [List.mem_cons,List.not_mem_nil,or_false] at hp
   rcases hp with rfl
   ·have e:s=zaH:=(Option.some.inj hs).symm
    subst e;exact L_w_lp_l R hR) (by kernel_rfl))
abbrev zyJ:List (Nat×Ent):=(1000004,.call ⟨66,[.o (.c (.p 900 0)),.o (.c (.m 36 900 0))],[.bx 900 62 [.h 0,.h 1]],yh 2,[.bx 900 62 [.h 3,.h 4]]⟩)::[]
theorem zhz {w0:World} (st:St) (r:List Int) (st2:St) (hr:(rdL rdI st).1=r) (hs:(rdL rdI st).2=st2) (hle:leftN (rdC st).2≤1000000):BFun false (KN w0) Tryz.prog 35 [.o (.c (.p 0 0))] [(62,[.d (pS (lfO st)),.d (pB (bdO st))])] (.o (.c (.d (pLs cI r)))) [(62,[.d (pS (lfO st2)),.d (pB (bdO st2))])]:=by
 obtain ⟨v1,e1⟩:=LX ((rdL rdI st).1)
 obtain ⟨v2,e2⟩:=LX ((rdL rdI st).2)
 have s3:leftN (rdC st).2≤1000000:=by exact hle
 let A1:List Pred→List Pred:=fun t=>pS (lfO st)::pB (bdO st)::pLs cI v1::pS (lfO v2)::pB (bdO v2)::t
 have f1:LA (KN w0) A1:=fun t h=>⟨zc,zc,(zi zl),zc,zc,h⟩
 have T1:LT (KN w0) Tryz.prog A1 zyJ:=fun t=>⟨b_con (pan:=false) (w_li st v1 v2 e1 e2 s3),trivial⟩
 have r0:r=v1:=by
  first | rw [← hr,e1] | rw [← hs,e2]
 have r1:st2=v2:=by
  first | rw [← hr,e1] | rw [← hs,e2]
 rw [r0,r1];exact con_b (pan:=false) (zr (F:=FL (A1 []) []) (C:=zyJ) (k:=⟨35,[.o (.c (.p 900 0))],[.bx 900 62 [.h 0,.h 1]],yh 2,[.bx 900 62 [.h 3,.h 4]]⟩) 0 (zg (f1 [] trivial)) (T1 []) mixed (by kernel_rfl))
abbrev zyI:List (Nat×Ent):=(1000004,.call ⟨83,[.o (.c (.p 900 0)),.o (.c (.m 84 900 0))],[.bx 900 62 [.h 0,.h 1]],yh 2,[.bx 900 62 [.h 3,.h 4]]⟩)::[]
theorem zmf {w0:World} (st:St) (r:List Pl) (st2:St) (hr:(rdL rdP st).1=r) (hs:(rdL rdP st).2=st2) (hle:leftN (rdC st).2≤1000000):BFun false (KN w0) Tryz.prog 57 [.o (.c (.p 0 0))] [(62,[.d (pS (lfO st)),.d (pB (bdO st))])] (.o (.c (.d (pLs cPl r)))) [(62,[.d (pS (lfO st2)),.d (pB (bdO st2))])]:=by
 obtain ⟨v1,e1⟩:=LX ((rdL rdP st).1)
 obtain ⟨v2,e2⟩:=LX ((rdL rdP st).2)
 have s3:leftN (rdC st).2≤1000000:=by exact hle
 let A1:List Pred→List Pred:=fun t=>pS (lfO st)::pB (bdO st)::pLs cPl v1::pS (lfO v2)::pB (bdO v2)::t
 have f1:LA (KN w0) A1:=fun t h=>⟨zc,zc,(zi zo),zc,zc,h⟩
 have T1:LT (KN w0) Tryz.prog A1 zyI:=fun t=>⟨b_con (pan:=false) (w_lp st v1 v2 e1 e2 s3),trivial⟩
 have r0:r=v1:=by
  first | rw [← hr,e1] | rw [← hs,e2]
 have r1:st2=v2:=by
  first | rw [← hr,e1] | rw [← hs,e2]
 rw [r0,r1];exact con_b (pan:=false) (zr (F:=FL (A1 []) []) (C:=zyI) (k:=⟨57,[.o (.c (.p 900 0))],[.bx 900 62 [.h 0,.h 1]],yh 2,[.bx 900 62 [.h 3,.h 4]]⟩) 0 (zg (f1 [] trivial)) (T1 []) mixed (by kernel_rfl))
end Go.Proofs.YtjcegdldgjphiaaGreatDoor
namespace Go.Proofs.YtjcegdldgjphiaaGreatDoor
open Go.RowKit Go.Shelf
def PImps:List Pred→List Pred→Prop
 | [],[]=>True
 | p::ps,q::qs=>(∀v W D,p v W D→q v W D)∧PImps ps qs
 | _,_=>False
theorem pimps {p q:Pred} {ps qs:List Pred} (h:∀v W D,p v W D→q v W D) (t:PImps ps qs):PImps (p::ps) (q::qs):=⟨h,t⟩
theorem zdg:PImps [] []:=trivial
section
variable {K:Kit} {P:Program} {F:Fact} {W:World} {D:Dat}
theorem zlR:∀{ps qs:List Pred} {vs:List Value},PImps ps qs→okl ps vs W D→okl qs vs W D
 | [],[],[],_,_=>trivial
 | _::_,_::_,_::_,h,h2=>⟨h.1 _ _ _ h2.1,zlR h.2 h2.2⟩
 | [],_::_,_,h,_=>h.elim
 | _::_,[],_,h,_=>h.elim
 | [],[],_::_,_,h=>h.elim
 | _::_,_::_,[],_,h=>h.elim
theorem zlS:∀{ps:List Pred} {vs:List Value},okl ps vs W D→vs.length=ps.length
 | [],[],_=>rfl
 | _::_,_::_,h=>congrArg (·+1) (zlS h.2)
 | [],_::_,h=>h.elim
 | _::_,[],h=>h.elim
theorem e_dat {α:Type} {c:α→List Pred} {E:TypeId} {len n:Nat} {ls:List Lf} {l:List α} {ps qs:List Pred} (hn:F.c n=pLs c l) (hp:ls.map (Lf.pr F)=ps) (hlow:ls.all (Lf.low [])=true) (hqs:l.flatMap c=qs) (hq:PImps ps qs) (hl:l.length=len):(Ent.dat E len ls n).sound K P F:=by
 intro β W q vs hv hh hD
 rw [hn]
 have h1:=(zce hlow).1 hv
 rw [hp] at h1
 have h2:=zlR hq h1
 have h3:=zlS h2
 refine .inr ⟨q,0,len,E,vs.toArray,(0,0),by rw [hl],hD,hh,?_,Nat.le_of_eq hl⟩
 show okl _ ((vs.toArray.toList.drop 0).take _) W β.D
 rw [hqs,List.drop_zero,List.take_of_length_le (by simp;omega)]
 exact h2
end
theorem nz0:nz 0=(false,[]):=by
 show (decide ((0:Int)<0),digs 0)=_
 rw [zx];rfl
theorem zn_b {v:Value} {W:World} {D:Dat} (h:pV (.bool false) v W D):pB (rq none).1.1 v W D∧pB (rq none).2.1 v W D:=by
 show pB (nz 0).1 v W D∧pB (nz 0).1 v W D
 rw [nz0];exact ⟨h,h⟩
theorem zn_d {v:Value} {W:World} {D:Dat} (h:pV (.slice none 0 0) v W D):pD (rq none).1.2 v W D∧pD (rq none).2.2 v W D:=by
 show pD (nz 0).2 v W D∧pD (nz 0).2 v W D
 rw [nz0];exact ⟨nil_D h,nil_D h⟩
end Go.Proofs.YtjcegdldgjphiaaGreatDoor
namespace Go.Proofs.YtjcegdldgjphiaaGreatDoor
open Go.RowKit Go.Shelf
theorem zhP {qs:List Nat} {v:Value} {W:World} {D:Dat} (h:(ASh.o (.g [.d (pV (.bool false)),.d (pV (.slice none 0 0)),.d (pV (.bool false)),.d (pV (.slice none 0 0))])).ok qs v W D):(ASh.o (.g [.d (pB (rq none).1.1),.d (pD (rq none).1.2),.d (pB (rq none).2.1),.d (pD (rq none).2.2)])).ok qs v W D:=by
 obtain ⟨vs,e,h⟩:=h
 refine ⟨vs,e,?_⟩
 revert h
 generalize vs.toList=l
 intro h
 match l,h with
 | [_,_,_,_],h=>exact ⟨(zn_b (W:=W) (D:=D) h.1).1,(zn_d (W:=W) (D:=D) h.2.1).1,(zn_b (W:=W) (D:=D) h.2.2.1).2,(zn_d (W:=W) (D:=D) h.2.2.2.1).2,trivial⟩
abbrev zxa:List (Nat×Ent):=(1000002,.call ⟨51,[.o (.c (.p 900 0))],[.bx 900 62 [.h 0,.h 1]],yh 2,[.bx 900 62 [.h 3,.h 4]]⟩)::(1000003,.call ⟨86,[yh 2],[],.t [.g [.h 5,.h 6,.h 7,.h 8],.c (.h 9)],[]⟩)::(1000011,.call ⟨23,[.o (.c (.p 900 0))],[.bx 900 62 [.h 3,.h 4]],yh 10,[.bx 900 62 [.h 3,.h 4]]⟩)::[]
abbrev zyj:List (Nat×Ent):=(10010,.fb 10 true)::(1000017,.call ⟨67,[.o (.c (.p 900 0))],[.bx 900 62 [.h 3,.h 4]],.t [],[.bx 900 62 [.k (.string ⟨#[]⟩),.k (.bool true)]]⟩)::zxa
abbrev zxb:List (Nat×Ent):=(10010,.fb 10 false)::(1000014,.un .not (yh 9) (yh 11))::zxa
abbrev zyk:List (Nat×Ent):=(10011,.fb 11 true)::(1000017,.call ⟨67,[.o (.c (.p 900 0))],[.bx 900 62 [.h 3,.h 4]],.t [],[.bx 900 62 [.k (.string ⟨#[]⟩),.k (.bool true)]]⟩)::zxb
abbrev zyl:List (Nat×Ent):=(10011,.fb 11 false)::zxb
theorem ziV {w0:World} (hM:LM w0) (hTS:LS w0) (st:St) (r:RR) (st2:St) (hr:(rdR st).1=r) (hs:(rdR st).2=st2) (hle:(rdT st).1.length<4294967281):BFun false (KN w0) Tryz.prog 60 [.o (.c (.p 0 0))] [(62,[.d (pS (lfO st)),.d (pB (bdO st))])] (.o (.g [.d (pB r.1.1),.d (pD r.1.2),.d (pB r.2.1),.d (pD r.2.2)])) [(62,[.d (pS (lfO st2)),.d (pB (bdO st2))])]:=by
 obtain ⟨v1,e1⟩:=LX ((rdT st).1)
 obtain ⟨v2,e2⟩:=LX ((rdT st).2)
 obtain ⟨v3,e3⟩:=LX (parR v1)
 obtain ⟨v4,e4⟩:=LX (okP v1)
 have s5:(v1:List UInt8).length<4294967281:=by rw [← e1];exact hle
 obtain ⟨v6,e6⟩:=LX (bdO v2)
 let A1:List Pred→List Pred:=fun t=>pS (lfO st)::pB (bdO st)::pS v1::pS (lfO v2)::pB (bdO v2)::pB v3.1.1::pD v3.1.2::pB v3.2.1::pD v3.2.2::pB v4::pB v6::t
 have f1:LA (KN w0) A1:=fun t h=>⟨zc,zc,zc,zc,zc,zc,zm,zc,zm,zc,zc,h⟩
 have T1:LT (KN w0) Tryz.prog A1 zxa:=fun t=>⟨b_con (pan:=false) (zdp st v1 v2 e1 e2),zh (zgS hM hTS v1 v3 v4 e3 e4 s5),b_con (pan:=false) (w_bad v2 v6 e6),trivial⟩
 cases h7:v6 with
 | true =>
  have T2:LT (KN w0) Tryz.prog A1 zyj:=fun t=>⟨e_fbv h7,b_con (pan:=false) (zfn v2),T1 _⟩
  have r0:r=rq none:=by
   have hL:rdR st=(rq none,none):=by
    unfold rdR
    rw [e2,q9.1 (e6.trans h7)]
   first | rw [← hr,hL] | rw [← hs,hL]
  have r1:st2=none:=by
   have hL:rdR st=(rq none,none):=by
    unfold rdR
    rw [e2,q9.1 (e6.trans h7)]
   first | rw [← hr,hL] | rw [← hs,hL]
  rw [r0,r1];exact BFun.fin (r:=.o (.g [.d (pV (.bool false)),.d (pV (.slice none 0 0)),.d (pV (.bool false)),.d (pV (.slice none 0 0))])) (con_b (pan:=false) (zr (F:=FL (A1 []) []) (C:=zyj) (k:=⟨60,[.o (.c (.p 900 0))],[.bx 900 62 [.h 0,.h 1]],.o (.g [.k (.bool false),.k (.slice none 0 0),.k (.bool false),.k (.slice none 0 0)]),[.bx 900 62 [.k (.string ⟨#[]⟩),.k (.bool true)]]⟩) 0 (zg (f1 [] trivial)) (T2 []) mixed (by kernel_rfl))) (fun _ _ _ _ h=>zhP h)
 | false =>
  obtain ⟨v8,e8⟩:=LX (!v4)
  let A3:=fun t=>A1 (pB v8::t)
  have f3:LA (KN w0) A3:=fun t h=>f1 _ ⟨zc,h⟩
  have T3:LT (KN w0) Tryz.prog A3 zxb:=fun t=>⟨e_fbv h7,e_un (za rfl) (za rfl) (fun W=>by rw [← e8];exact r_not W),T1 _⟩
  cases h9:v8 with
  | true =>
   have T4:LT (KN w0) Tryz.prog A3 zyk:=fun t=>⟨e_fbv h9,b_con (pan:=false) (zfn v2),T3 _⟩
   have r0:r=rq none:=by
    obtain ⟨m,hm⟩:=qn.1 (e6.trans h7)
    have hL:rdR st=(rq none,none):=by
     unfold rdR
     rw [e2,hm]
     simp only []
     rw [e1,e4,if_neg (by cases v4<;>simp_all)]
    first | rw [← hr,hL] | rw [← hs,hL]
   have r1:st2=none:=by
    obtain ⟨m,hm⟩:=qn.1 (e6.trans h7)
    have hL:rdR st=(rq none,none):=by
     unfold rdR
     rw [e2,hm]
     simp only []
     rw [e1,e4,if_neg (by cases v4<;>simp_all)]
    first | rw [← hr,hL] | rw [← hs,hL]
   rw [r0,r1];exact BFun.fin (r:=.o (.g [.d (pV (.bool false)),.d (pV (.slice none 0 0)),.d (pV (.bool false)),.d (pV (.slice none 0 0))])) (con_b (pan:=false) (zr (F:=FL (A3 []) []) (C:=zyk) (k:=⟨60,[.o (.c (.p 900 0))],[.bx 900 62 [.h 0,.h 1]],.o (.g [.k (.bool false),.k (.slice none 0 0),.k (.bool false),.k (.slice none 0 0)]),[.bx 900 62 [.k (.string ⟨#[]⟩),.k (.bool true)]]⟩) 0 (zg (f3 [] trivial)) (T4 []) mixed (by kernel_rfl))) (fun _ _ _ _ h=>zhP h)
  | false =>
   have T5:LT (KN w0) Tryz.prog A3 zyl:=fun t=>⟨e_fbv h9,T3 _⟩
   have r0:r=v3:=by
    obtain ⟨m,hm⟩:=qn.1 (e6.trans h7)
    have hL:rdR st=(v3,v2):=by
     unfold rdR
     rw [e2,hm]
     simp only []
     rw [e1,e4,if_pos (by cases v4<;>simp_all),e3]
    first | rw [← hr,hL] | rw [← hs,hL]
   have r1:st2=v2:=by
    obtain ⟨m,hm⟩:=qn.1 (e6.trans h7)
    have hL:rdR st=(v3,v2):=by
     unfold rdR
     rw [e2,hm]
     simp only []
     rw [e1,e4,if_pos (by cases v4<;>simp_all),e3]
    first | rw [← hr,hL] | rw [← hs,hL]
   rw [r0,r1];exact con_b (pan:=false) (zr (F:=FL (A3 []) []) (C:=zyl) (k:=⟨60,[.o (.c (.p 900 0))],[.bx 900 62 [.h 0,.h 1]],.o (.g [.h 5,.h 6,.h 7,.h 8]),[.bx 900 62 [.h 3,.h 4]]⟩) 0 (zg (f3 [] trivial)) (T5 []) mixed (by kernel_rfl))
end Go.Proofs.YtjcegdldgjphiaaGreatDoor
namespace Go.Proofs.YtjcegdldgjphiaaGreatDoor
open Go.RowKit Go.Shelf
end Go.Proofs.YtjcegdldgjphiaaGreatDoor
namespace Go.Proofs.YtjcegdldgjphiaaGreatDoor
open Go.RowKit Go.Shelf
abbrev zzP:List (Nat×Ent):=(1000002,.bin .eql 47 (LF (.p 900 0)) (LF (.k (.pointer none))) (LF (.k (.bool false))))::[]
theorem zay {w0:World} (x:RS) (o:Bool) (ho:x.2.2=o):BFun false (KN w0) Tryz.prog 24 [.o (.c (.p 0 0))] [(79,[.d (pS x.1),.d (pI (x.2.1:Int)),.d (pB x.2.2)])] (.o (.c (.d (pB o)))) [(79,[.d (pS x.1),.d (pI (x.2.1:Int)),.d (pB x.2.2)])]:=by
 let A1:List Pred→List Pred:=fun t=>pS x.1::pI (x.2.1:Int)::pB x.2.2::t
 have f1:LA (KN w0) A1:=fun t h=>⟨zc,zc,zc,h⟩
 have T1:LT (KN w0) Tryz.prog A1 zzP:=fun t=>⟨zh9 (by kernel_rfl),trivial⟩
 have r0:o=x.2.2:=by
  rw [← ho]
 rw [r0];exact con_b (pan:=false) (zr (F:=FL (A1 []) []) (C:=zzP) (k:=⟨24,[.o (.c (.p 900 0))],[.bx 900 79 [.h 0,.h 1,.h 2]],yh 2,[.bx 900 79 [.h 0,.h 1,.h 2]]⟩) 0 (zg (f1 [] trivial)) (T1 []) mixed (by kernel_rfl))
abbrev zyU:List (Nat×Ent):=(1000001,.bin .neq 47 (LF (.p 900 0)) (LF (.k (.pointer none))) (LF (.k (.bool true))))::[]
theorem zds {w0:World} (x:RS) (y:RS) (hy:zBR x=y):BFun false (KN w0) Tryz.prog 80 [.o (.c (.p 0 0))] [(79,[.d (pS x.1),.d (pI (x.2.1:Int)),.d (pB x.2.2)])] (.t []) [(79,[.d (pS y.1),.d (pI (y.2.1:Int)),.d (pB y.2.2)])]:=by
 let A1:List Pred→List Pred:=fun t=>pS x.1::pI (x.2.1:Int)::pB x.2.2::t
 have f1:LA (KN w0) A1:=fun t h=>⟨zc,zc,zc,h⟩
 have T1:LT (KN w0) Tryz.prog A1 zyU:=fun t=>⟨zbu (by kernel_rfl),trivial⟩
 have r0:y=(x.1,((x.2.1:Int):Int).toNat,true):=by
  rw [← hy];rfl
 rw [r0];exact con_b (pan:=false) (zr (F:=FL (A1 []) []) (C:=zyU) (k:=⟨80,[.o (.c (.p 900 0))],[.bx 900 79 [.h 0,.h 1,.h 2]],.t [],[.bx 900 79 [.h 0,.h 1,.k (.bool true)]]⟩) 0 (zg (f1 [] trivial)) (T1 []) mixed (by kernel_rfl))
abbrev zx7:List (Nat×Ent):=(1000002,.call ⟨24,[.o (.c (.p 900 0))],[.bx 900 79 [.h 0,.h 1,.h 2]],yh 3,[.bx 900 79 [.h 0,.h 1,.h 2]]⟩)::[]
abbrev zzh:List (Nat×Ent):=(10003,.fb 3 true)::zx7
abbrev zzi:List (Nat×Ent):=(10003,.fb 3 false)::(1000007,.op (.len [9] 3) [yh 0] [] (yh 4))::(1000012,.bin .sub 3 (yh 4) (yh 1) (yh 5))::zx7
theorem za9 {w0:World} (x:RS) (o:Int) (ho:(rleft x:Int)=o) (hx:okRS x) (hl:x.1.length<9223372036854775808):BFun false (KN w0) Tryz.prog 22 [.o (.c (.p 0 0))] [(79,[.d (pS x.1),.d (pI (x.2.1:Int)),.d (pB x.2.2)])] (.o (.c (.d (pI o)))) [(79,[.d (pS x.1),.d (pI (x.2.1:Int)),.d (pB x.2.2)])]:=by
 obtain ⟨v1,e1⟩:=LX (x.2.2)
 let A1:List Pred→List Pred:=fun t=>pS x.1::pI (x.2.1:Int)::pB x.2.2::pB v1::t
 have f1:LA (KN w0) A1:=fun t h=>⟨zc,zc,zc,zc,h⟩
 have T1:LT (KN w0) Tryz.prog A1 zx7:=fun t=>⟨b_con (pan:=false) (zay x v1 e1),trivial⟩
 cases h2:v1 with
 | true =>
  have T2:LT (KN w0) Tryz.prog A1 zzh:=fun t=>⟨e_fbv h2,T1 _⟩
  have r0:o=(0:Int):=by
   rw [← ho]
   unfold rleft
   rw [zbp (e1.trans h2)];rfl
  rw [r0];exact con_b (pan:=false) (zr (F:=FL (A1 []) []) (C:=zzh) (k:=⟨22,[.o (.c (.p 900 0))],[.bx 900 79 [.h 0,.h 1,.h 2]],.o (.c (.k (.int .i64 0))),[.bx 900 79 [.h 0,.h 1,.h 2]]⟩) 0 (zg (f1 [] trivial)) (T2 []) mixed (by kernel_rfl))
 | false =>
  obtain ⟨v3,e3⟩:=LX (((x.1:List UInt8).length:Int))
  obtain ⟨v4,e4⟩:=LX (IntKind.i64.wrap (v3 - (x.2.1:Int)))
  let A3:=fun t=>A1 (pI v3::pI v4::t)
  have f3:LA (KN w0) A3:=fun t h=>f1 _ ⟨zc,zc,h⟩
  have T3:LT (KN w0) Tryz.prog A3 zzi:=fun t=>⟨e_fbv h2,e_op1 (za rfl) (za rfl) (fun W=>by rw [← e3];exact zav (by kernel_rfl) W),e_bin (za rfl) (za rfl) (za rfl) (r_ar (LO e4)),T1 _⟩
  have r0:o=v4:=by
   rw [← ho]
   unfold rleft
   rw [zbi (e1.trans h2),← e4,← e3]
   unfold okRS at hx
   rw [wri (by omega)]
   show ((x.1.drop x.2.1).length:Int)=_
   rw [List.length_drop];omega
  rw [r0];exact con_b (pan:=false) (zr (F:=FL (A3 []) []) (C:=zzi) (k:=⟨22,[.o (.c (.p 900 0))],[.bx 900 79 [.h 0,.h 1,.h 2]],yh 5,[.bx 900 79 [.h 0,.h 1,.h 2]]⟩) 0 (zg (f3 [] trivial)) (T3 []) mixed (by kernel_rfl))
end Go.Proofs.YtjcegdldgjphiaaGreatDoor
namespace Go.Proofs.YtjcegdldgjphiaaGreatDoor
def RfJ (l:List UInt8) (k c:Nat):Prop:=k≤lowAt l∧k≤10∧c=sumB (l.take k)%18446744073709551616
theorem ziA (l:List UInt8):RfJ l 0 0:=⟨Nat.zero_le _,by decide,rfl⟩
theorem zrb {l:List UInt8} {k:Nat} (h:k<lowAt l):∃b,l[k]?=some b∧128≤b.toNat:=by
 have h1:=zlN l
 refine ⟨l[k],List.getElem?_eq_getElem (by omega),?_⟩
 have:=List.not_of_lt_findIdx h
 simpa using this
theorem zra {l:List UInt8} {k:Nat} {b:UInt8} (h:k≤lowAt l) (hb:l[k]?=some b) (hs:b.toNat<128):lowAt l=k:=by
 rcases Nat.lt_or_ge k (lowAt l) with h1 | h1
 ·obtain ⟨b',e,h2⟩:=zrb h1
  rw [hb] at e
  injection e with e
  subst e;omega
 ·omega
theorem zmD {l:List UInt8} {k:Nat} {b:UInt8} (h:k≤lowAt l) (hb:l[k]?=some b) (hs:128≤b.toNat):k+1≤lowAt l:=by
 rcases Nat.lt_or_ge k (lowAt l) with h1 | h1
 ·exact h1
 ·have hk:lowAt l=k:=by omega
  have hlt:lowAt l<l.length:=by
   have:=(List.getElem?_eq_some_iff.1 hb).1;omega
  have h2:=List.findIdx_getElem (w:=hlt)
  obtain ⟨h3,h4⟩:=List.getElem?_eq_some_iff.1 hb
  have h5:l[lowAt l]=b:=by simp only [hk];exact h4
  have h6:decide (l[lowAt l].toNat<128)=true:=h2
  rw [h5] at h6
  have:=of_decide_eq_true h6
  omega
theorem zea {l:List UInt8} {k c:Nat} {b:UInt8} (h:RfJ l k c) (hk:k<10) (hb:l[k]?=some b):IntKind.u64.wrap ((c:Int)+IntKind.u64.wrap (((b.toNat%128:Nat):Int)*2 ^ min ((7*k:Nat):Int).toNat IntKind.u64.bits))=((sumB (l.take (k+1))%18446744073709551616:Nat):Int):=by
 have hm:min ((7*k:Nat):Int).toNat IntKind.u64.bits=7*k:=by
  rw [Int.toNat_natCast]
  exact Nat.min_eq_left (by show 7*k≤64;omega)
 have hlen:k<l.length:=(List.getElem?_eq_some_iff.1 hb).1
 have e1:l.take (k+1)=l.take k++[b]:=by rw [List.take_add_one,hb];rfl
 have e2:(128:Nat) ^ k=2 ^ (7*k):=by rw [show (128:Nat)=2 ^ 7 by decide,← Nat.pow_mul]
 rw [hm,e1,zpO,List.length_take,Nat.min_eq_left (by omega),h.2.2,wu64,wu64,e2]
 have e3:((b.toNat%128:Nat):Int)*2 ^ (7*k)=((2 ^ (7*k)*(b.toNat%128):Nat):Int):=by
  rw [Int.natCast_mul,Int.natCast_pow,Int.mul_comm];rfl
 rw [e3]
 generalize 2 ^ (7*k)*(b.toNat%128)=y
 omega
end Go.Proofs.YtjcegdldgjphiaaGreatDoor
namespace Go.Proofs.YtjcegdldgjphiaaGreatDoor
open Go.RowKit Go.Shelf
theorem wri2 {a:Int} (h:-9223372036854775808≤a∧a+1<9223372036854775808):IntKind.i64.wrap (IntKind.i64.wrap a+1)=a+1:=by rw [wri (n:=a) (by omega),wri (by omega)]
theorem zcD {x:RS} (hw:x.2.2=false) {y:Int×Nat} (h:refI (x.1.drop x.2.1)=some y):rfI x=(y.1,(x.1,x.2.1+y.2,false)):=by
 unfold rfI
 rw [hw,h];rfl
theorem zcC {x:RS} (hw:x.2.2=false) (h:refI (x.1.drop x.2.1)=none):rfI x=(0,zBR x):=by
 unfold rfI
 rw [hw,h];rfl
theorem zhk {x:RS} (hw:x.2.2=true):rfI x=(0,zBR x):=by
 obtain ⟨s,k,b⟩:=x
 simp only at hw
 subst hw
 rfl
theorem zdT {l:List UInt8} {n c:Nat} {b:UInt8} (h:RfJ l n c) (hn:n<10) (hb:l[n]?=some b) (hs:b.toNat<128) :
  refI l=if encI (unzig (sumB (l.take (n+1))%18446744073709551616))=l.take (n+1) then some (unzig (sumB (l.take (n+1))%18446744073709551616),n+1) else none:=by
 have hl:=zra h.1 hb hs
 have hlt:n<l.length:=(List.getElem?_eq_some_iff.1 hb).1
 unfold refI
 rw [hl]
 by_cases he:encI (unzig (sumB (l.take (n+1))%18446744073709551616))=l.take (n+1)
 ·rw [if_pos ⟨hn,hlt,he⟩,if_pos he]
 ·rw [if_neg fun h=>he h.2.2,if_neg he]
theorem zpB {l:List UInt8} {n c:Nat} (h:RfJ l n c) (hn:l.length≤n∨10≤n):refI l=none:=by
 have h1:=zlN l
 have h2:=h.1
 unfold refI
 rw [if_neg]
 rintro ⟨h3,h4,_⟩
 rcases hn with hn | hn<;>omega
theorem zl0 {l:List UInt8} {n c:Nat} {b:UInt8} (h:RfJ l n c) (hn:n<10) (hb:l[n]?=some b) (hs:128≤b.toNat):RfJ l (n+1) (sumB (l.take (n+1))%18446744073709551616):=
 ⟨zmD h.1 hb hs,by omega,rfl⟩
theorem zkK {C:Nat} (hC:C<18446744073709551616) (h:(C:Int).tmod 2=1):IntKind.i64.wrap (IntKind.i64.wrap (0 - IntKind.i64.wrap (IntKind.u64.wrap ((C:Int).tdiv 2))) - 1)=unzig C:=by
 have e1:(C:Int).tdiv 2=((C / 2:Nat):Int):=rfl
 have e2:(C:Int).tmod 2=((C%2:Nat):Int):=rfl
 rw [e1,IntKind.wrap_u64,wri (n:=((C / 2:Nat):Int)%18446744073709551616) (by omega),wri (n:=0 - ((C / 2:Nat):Int)%18446744073709551616) (by omega),wri (by omega)]
 unfold unzig
 rw [if_neg (by omega)]
 omega
theorem zht {C:Nat} (hC:C<18446744073709551616) (h:(C:Int).tmod 2≠1):IntKind.i64.wrap (IntKind.u64.wrap ((C:Int).tdiv 2))=unzig C:=by
 have e1:(C:Int).tdiv 2=((C / 2:Nat):Int):=rfl
 have e2:(C:Int).tmod 2=((C%2:Nat):Int):=rfl
 rw [e1,IntKind.wrap_u64,wri (by omega)]
 unfold unzig
 rw [if_pos (by omega)]
 omega
theorem zl4 {x:RS} (hw:x.2.2=false):rleft x=(x.1.drop x.2.1).length:=by unfold rleft;rw [zbi hw];rfl
theorem zpC {x:RS} (hw:x.2.2=true):rleft x=0:=by unfold rleft;rw [zbp hw];rfl
theorem qx {x:RS} {n:Nat} (hx:okRS x) (h:n<rleft x):x.2.2=false∧∃b,(x.1.drop x.2.1)[n]?=some b∧x.1[x.2.1+n]?=some b:=by
 cases hw:x.2.2 with
 | true=>rw [zpC hw] at h;omega
 | false =>
  rw [zl4 hw] at h
  refine ⟨rfl,_,List.getElem?_eq_getElem h,?_⟩
  rw [← List.getElem?_drop];exact List.getElem?_eq_getElem h
structure rfA_T where
 code:Int
 k:Int
def za6:List Atom:=[.sl 0 (.o (.c (.p 900 0))),.sl 3 (yh 5000),.sl 4 (yh 3),.bx 900 79 [.h 0,.h 1,.h 2]]
def rfA_S:LoopS:=⟨3,[.sl 0 (.o (.c (.p 900 0))),.sl 3 (.o (.c (.k (.int .u64 0)))),.sl 4 (.o (.c (.k (.int .i64 0)))),.bx 900 79 [.h 0,.h 1,.h 2]],.r,[.sl 0 (.o (.c (.p 900 0))),.sl 2 (yh 3),.bx 900 79 [.h 0,.h 4,.h 2]]⟩
abbrev zAS:List (Nat×Ent):=(1005001,.bin .lss 3 (yh 3) (LF (.k (.int .i64 10))) (yh 4))::[]
abbrev zAT:List (Nat×Ent):=(10004,.fb 4 true)::(1005005,.call ⟨22,[.o (.c (.p 900 0))],[.bx 900 79 [.h 0,.h 1,.h 2]],yh 5,[.bx 900 79 [.h 0,.h 1,.h 2]]⟩)::(1005006,.bin .lss 3 (yh 3) (yh 5) (yh 6))::zAS
abbrev zAj:List (Nat×Ent):=(10006,.fb 6 true)::(1005017,.bin .add 3 (yh 1) (yh 3) (yh 7))::(1005018,.op (.ix 9) [yh 0,yh 7] [] (yh 8))::(1005019,.op (.cv 5 72) [yh 8] [] (yh 5001))::(1005023,.bin .rem 72 (yh 5001) (LF (.k (.int .u64 128))) (yh 5002))::(1005025,.bin .mul 3 (LF (.k (.int .i64 7))) (yh 3) (yh 9))::(1005026,.bin .shl 72 (yh 5002) (yh 9) (yh 5003))::(1005027,.bin .add 72 (yh 5000) (yh 5003) (yh 5004))::(1005030,.bin .geq 72 (yh 5001) (LF (.k (.int .u64 128))) (yh 10))::zAT
abbrev zAU:List (Nat×Ent):=(10010,.fb 10 true)::(1005032,.bin .add 3 (yh 3) (LF (.k (.int .i64 1))) (yh 11))::zAj
abbrev zAk:List (Nat×Ent):=(10010,.fb 10 false)::(1005032,.bin .quo 72 (yh 5004) (LF (.k (.int .u64 2))) (yh 5005))::(1005033,.op (.cv 72 3) [yh 5005] [] (yh 11))::(1005036,.bin .rem 72 (yh 5004) (LF (.k (.int .u64 2))) (yh 5006))::(1005037,.bin .eql 72 (yh 5006) (LF (.k (.int .u64 1))) (yh 12))::zAj
abbrev zAV:List (Nat×Ent):=(10012,.fb 12 true)::(1005039,.un .neg (yh 11) (yh 13))::(1005040,.bin .sub 3 (yh 13) (LF (.k (.int .i64 1))) (yh 14))::(1005043,.call ⟨13,[yh 14],[],yh 15,[]⟩)::(1005057,.bin .add 3 (yh 1) (yh 3) (yh 16))::(1005058,.bin .add 3 (yh 16) (LF (.k (.int .i64 1))) (yh 17))::(1005059,.op (.sc 9 true true false) [yh 0,yh 1,yh 17] [] (yh 18))::(1005060,.bin .neq 9 (yh 15) (yh 18) (yh 19))::zAk
abbrev zAW:List (Nat×Ent):=(10019,.fb 19 false)::(1005067,.bin .add 3 (yh 1) (yh 3) (yh 20))::(1005068,.bin .add 3 (yh 20) (LF (.k (.int .i64 1))) (yh 21))::zAV
abbrev zAX:List (Nat×Ent):=(10012,.fb 12 false)::(1005039,.call ⟨13,[yh 11],[],yh 13,[]⟩)::(1005053,.bin .add 3 (yh 1) (yh 3) (yh 14))::(1005054,.bin .add 3 (yh 14) (LF (.k (.int .i64 1))) (yh 15))::(1005055,.op (.sc 9 true true false) [yh 0,yh 1,yh 15] [] (yh 16))::(1005056,.bin .neq 9 (yh 13) (yh 16) (yh 17))::zAk
abbrev zAY:List (Nat×Ent):=(10017,.fb 17 false)::(1005063,.bin .add 3 (yh 1) (yh 3) (yh 18))::(1005064,.bin .add 3 (yh 18) (LF (.k (.int .i64 1))) (yh 19))::zAX
theorem zvH {w0:World} (x:RS) (o:Int) (a2:Nat) {F:Fact} (u0:F.c 0=pS x.1) (u1:F.c 1=pI (x.2.1:Int)) (u2:F.c 2=pB x.2.2) (u3:F.c 3=pI o) (u4:F.c 4=pI (a2:Int)) (R:Frm) (hR:R.pm=⟨ntOf Tryz.prog 50,[900],[]⟩) (hx:okRS x) (hlen:x.1.length<9223372036854775808) (hg:(rfI x).2.2.2=false) (hO:(rfI x).1=o∧(rfI x).2.2.1=a2):zj (KN w0) Tryz.prog F R rfA_S (lp Tryz.prog 50 0):=by
 refine zG (T:=rfA_T) (fun t=>FL [pS x.1,pI (x.2.1:Int),pB x.2.2,pI t.k] [] [(5000,pV (.int .u64 t.code))]) (fun ⟨code,k⟩=>∃n c:Nat,k=(n:Int)∧code=(c:Int)∧RfJ (x.1.drop x.2.1) n c) (fun ⟨code,k⟩=>(10 - k).toNat) { code:=(0:Int),k:=(0:Int) } za6 ⟨0,0,rfl,rfl,ziA _⟩ (LZ ⟨z_c yy,z_c yy,z_c yy,z_b ⟨LU u0,LU u1,LU u2,trivial⟩,trivial⟩) rfl fun t hJ=>?_
 obtain ⟨code,k⟩:=t
 dsimp only at hJ
 obtain ⟨n,c,hk,hc,hJ⟩:=hJ
 have hk10:=hJ.2.1
 obtain ⟨v501,e501⟩:=LX (decide (k<(10:Int)))
 let A1:List Pred→List Pred:=fun t=>pS x.1::pI (x.2.1:Int)::pB x.2.2::pI k::pB v501::t
 have f1:LA (KN w0) A1:=fun t h=>⟨zc,zc,zc,zc,zc,h⟩
 let Q1:List (Nat×Pred)→List (Nat×Pred):=fun t=>(5000,pV (.int .u64 code))::t
 have fq1:LQ (KN w0) Q1:=fun t h=>⟨⟨rfl,zu⟩,h⟩
 have T1:LI (KN w0) Tryz.prog A1 Q1 zAS:=fun t qq=>⟨e_bin (za rfl) ze (za rfl) (r_cmp (LO e501)),trivial⟩
 cases h502:v501 with
 | true =>
  obtain ⟨v503,e503⟩:=LX ((rleft x:Int))
  have s504:okRS x:=by exact hx
  have s505:x.1.length<9223372036854775808:=by exact hlen
  obtain ⟨v506,e506⟩:=LX (decide (k<v503))
  let A2:=fun t=>A1 (pI v503::pB v506::t)
  have f2:LA (KN w0) A2:=fun t h=>f1 _ ⟨zc,zc,h⟩
  have T2:LI (KN w0) Tryz.prog A2 Q1 zAT:=fun t qq=>⟨e_fbv h502,b_con (pan:=false) (za9 x v503 e503 s504 s505),e_bin (za rfl) (za rfl) (za rfl) (r_cmp (LO e506)),T1 _ _⟩
  cases h507:v506 with
  | true =>
   obtain ⟨v508,e508⟩:=LX (IntKind.i64.wrap ((x.2.1:Int)+k))
   obtain ⟨n509,b510,s511,s512⟩:∃(n509:Nat) (b510:UInt8),v508=(n509:Int)∧(x.1:List UInt8)[n509]?=some b510:=by (have d1:=LD e501 h502;have d2:=LD e506 h507;have hnl:n<rleft x:=(by rw [← e503] at d2;omega);obtain ⟨hw,b0,hb0,hb1⟩:=qx hx hnl;have hat:x.2.1+n<x.1.length:=(List.getElem?_eq_some_iff.1 hb1).1;exact ⟨x.2.1+n,b0,by rw [← e508,hk,wri (by omega)];omega,hb1⟩)
   obtain ⟨v513,e513⟩:=LX (IntKind.u64.wrap (b510.toNat:Int))
   obtain ⟨v514,e514⟩:=LX ((v513:Int).tmod (128:Int))
   obtain ⟨v515,e515⟩:=LX (IntKind.i64.wrap ((7:Int)*k))
   have s516:0≤v515:=by (have d1:=LD e501 h502;rw [← e515,hk,wri (by omega)];omega)
   obtain ⟨v517,e517⟩:=LX (IntKind.u64.wrap (v514*2 ^ min (v515:Int).toNat IntKind.u64.bits))
   obtain ⟨v518,e518⟩:=LX (IntKind.u64.wrap (code+v517))
   obtain ⟨v519,e519⟩:=LX (decide (v513 ≥ (128:Int)))
   let A3:=fun t=>A2 (pI v508::pV (.int .u8 (b510.toNat:Int))::pI v515::pB v519::t)
   have f3:LA (KN w0) A3:=fun t h=>f2 _ ⟨zc,zc,zc,zc,h⟩
   let Q3:=fun t=>Q1 ((5001,pV (.int .u64 v513))::(5002,pV (.int .u64 v514))::(5003,pV (.int .u64 v517))::(5004,pV (.int .u64 v518))::t)
   have fq3:LQ (KN w0) Q3:=fun t h=>fq1 _ ⟨⟨rfl,zu⟩,⟨rfl,zu⟩,⟨rfl,zu⟩,⟨rfl,zu⟩,h⟩
   have T3:LI (KN w0) Tryz.prog A3 Q3 zAj:=fun t qq=>⟨e_fbv h507,e_bin (za rfl) (za rfl) (za rfl) (r_ar (LO e508)),e_op2 (za rfl) (za rfl) (za rfl) (r_ix (by kernel_rfl) s511 s512),e_op1 (za rfl) (za rfl) (fun W=>by rw [← e513];exact r_cvi (by kernel_rfl) (by kernel_rfl) W),e_bin (za rfl) ze (za rfl) (r_ar ((qB (by decide)).trans (LO e514))),e_bin ze (za rfl) (za rfl) (r_ar (LO e515)),e_bin (za rfl) (za rfl) (za rfl) (fun W X Y=>by rw [← e517];exact r_shl s516 W X Y),e_bin (za rfl) (za rfl) (za rfl) (r_ar (LO e518)),e_bin (za rfl) ze (za rfl) (r_cmp (LO e519)),T2 _ _⟩
   cases h520:v519 with
   | true =>
    obtain ⟨v521,e521⟩:=LX (IntKind.i64.wrap (k+(1:Int)))
    let A4:=fun t=>A3 (pI v521::t)
    have f4:LA (KN w0) A4:=fun t h=>f3 _ ⟨zc,h⟩
    have T4:LI (KN w0) Tryz.prog A4 Q3 zAU:=fun t qq=>⟨e_fbv h520,e_bin (za rfl) ze (za rfl) (r_ar (LO e521)),T3 _ _⟩
    refine .inr ⟨⟨v518,v521⟩,?_,?_,goes (x:=.n) (y:=.n) (Fb:=FQ (A4 []) [] (Q3 [])) (stb:=za6) (tl:=[.sl 0 (.o (.c (.p 900 0))),.sl 3 (yh 5004),.sl 4 (yh 11),.bx 900 79 [.h 0,.h 1,.h 2]]) (C:=zAU) (H:=.no) 5000 (LZ ⟨z_c yy,z_c yy,z_c yy,z_b ⟨yy,yy,yy,trivial⟩,trivial⟩) (zws (f4 [] trivial) trivial (fq3 [] trivial)) (T4 [] []) mixed hR trivial (fun _ _ _ hs=>by cases hs) (by kernel_rfl) rfl (LZ ⟨z_c yy,z_c (fun β v W h=>(zd rfl β v W).2 h),z_c (fun β v W h=>(zd rfl β v W).2 h),z_b ⟨yy,yy,yy,trivial⟩,trivial⟩)⟩
    all_goals (have d1:=LD e501 h502;have d2:=LD e506 h507;have hnl:n<rleft x:=(by rw [← e503] at d2;omega);obtain ⟨hw,b0,hb0,hb1⟩:=qx hx hnl;have hat:x.2.1+n<x.1.length:=(List.getElem?_eq_some_iff.1 hb1).1;have hn0:n509=x.2.1+n:=(by have t:=s511;rw [← e508,hk,wri (by omega)] at t;omega);subst hn0;have hbb:b0=b510:=Option.some.inj (hb1.symm.trans s512);subst hbb;have hbl:=b0.toNat_lt;have y1:v513=(b0.toNat:Int):=(by rw [← e513,IntKind.wrap_u64];omega);have y2:v514=((b0.toNat%128:Nat):Int):=(by rw [← e514,y1];rfl);have y3:v515=((7*n:Nat):Int):=(by rw [← e515,hk,wri (by omega)];omega);have y4:v518=((sumB ((x.1.drop x.2.1).take (n+1))%18446744073709551616:Nat):Int):=(by rw [← e518,← e517,y2,y3,hc];exact zea hJ (by omega) hb0);have d3:=LD e519 h520;have hs:128≤b0.toNat:=(by omega);have x4:v521=((n+1:Nat):Int):=(by rw [← e521,hk,wri (by omega)];omega))
    ·show (10 - v521).toNat<(10 - k).toNat
     omega
    ·exact ⟨n+1,_,x4,y4,zl0 hJ (by omega) hb0 hs⟩
   | false =>
    obtain ⟨v521,e521⟩:=LX (IntKind.u64.wrap ((v518:Int).tdiv (2:Int)))
    obtain ⟨v522,e522⟩:=LX (IntKind.i64.wrap v521)
    obtain ⟨v523,e523⟩:=LX ((v518:Int).tmod (2:Int))
    obtain ⟨v524,e524⟩:=LX ((v523 == (1:Int)))
    let A5:=fun t=>A3 (pI v522::pB v524::t)
    have f5:LA (KN w0) A5:=fun t h=>f3 _ ⟨zc,zc,h⟩
    let Q5:=fun t=>Q3 ((5005,pV (.int .u64 v521))::(5006,pV (.int .u64 v523))::t)
    have fq5:LQ (KN w0) Q5:=fun t h=>fq3 _ ⟨⟨rfl,zu⟩,⟨rfl,zu⟩,h⟩
    have T5:LI (KN w0) Tryz.prog A5 Q5 zAk:=fun t qq=>⟨e_fbv h520,e_bin (za rfl) ze (za rfl) (r_ar ((zhS (by decide)).trans (LO e521))),e_op1 (za rfl) (za rfl) (fun W=>by rw [← e522];exact r_cvi (by kernel_rfl) (by kernel_rfl) W),e_bin (za rfl) ze (za rfl) (r_ar ((qB (by decide)).trans (LO e523))),e_bin (za rfl) ze (za rfl) (r_cmp (LO e524)),T3 _ _⟩
    cases h525:v524 with
    | true =>
     obtain ⟨v526,e526⟩:=LX (IntKind.i64.wrap (0 - v522))
     obtain ⟨v527,e527⟩:=LX (IntKind.i64.wrap (v526 - (1:Int)))
     obtain ⟨v528,e528⟩:=LX (encI v527)
     have s529:InI v527:=by (unfold InI;rw [← e527,IntKind.wrap_i64];omega)
     obtain ⟨v530,e530⟩:=LX (IntKind.i64.wrap ((x.2.1:Int)+k))
     obtain ⟨v531,e531⟩:=LX (IntKind.i64.wrap (v530+(1:Int)))
     obtain ⟨n532,s533⟩:∃(n532:Nat),(x.2.1:Int)=(n532:Int):=by exact ⟨x.2.1,rfl⟩
     obtain ⟨n534,s535⟩:∃(n534:Nat),v531=(n534:Int):=by (have d1:=LD e501 h502;have d2:=LD e506 h507;have hnl:n<rleft x:=(by rw [← e503] at d2;omega);obtain ⟨hw,b0,hb0,hb1⟩:=qx hx hnl;have hat:x.2.1+n<x.1.length:=(List.getElem?_eq_some_iff.1 hb1).1;refine ⟨x.2.1+n+1,?_⟩;rw [← e531,← e530,hk,wri2 (by omega)];omega)
     obtain ⟨v536,e536⟩:=LX (((x.1:List UInt8).drop n532).take (n534 - n532))
     have s537:n532≤n534:=by (have d1:=LD e501 h502;have d2:=LD e506 h507;have hnl:n<rleft x:=(by rw [← e503] at d2;omega);obtain ⟨hw,b0,hb0,hb1⟩:=qx hx hnl;have hat:x.2.1+n<x.1.length:=(List.getElem?_eq_some_iff.1 hb1).1;have t1:=s533;have t2:=s535;rw [← e531,← e530,hk,wri2 (by omega)] at t2;omega)
     have s538:n534≤(x.1:List UInt8).length:=by (have d1:=LD e501 h502;have d2:=LD e506 h507;have hnl:n<rleft x:=(by rw [← e503] at d2;omega);obtain ⟨hw,b0,hb0,hb1⟩:=qx hx hnl;have hat:x.2.1+n<x.1.length:=(List.getElem?_eq_some_iff.1 hb1).1;have t1:=s533;have t2:=s535;rw [← e531,← e530,hk,wri2 (by omega)] at t2;omega)
     obtain ⟨v539,e539⟩:=LX (!((v528:List UInt8) == v536))
     let A6:=fun t=>A5 (pI v526::pI v527::pS v528::pI v530::pI v531::pS v536::pB v539::t)
     have f6:LA (KN w0) A6:=fun t h=>f5 _ ⟨zc,zc,zc,zc,zc,zc,zc,h⟩
     have T6:LI (KN w0) Tryz.prog A6 Q5 zAV:=fun t qq=>⟨e_fbv h525,e_un (za rfl) (za rfl) (fun W=>by rw [← e526];exact r_neg W),e_bin (za rfl) ze (za rfl) (r_ar (LO e527)),zh (zbH v527 v528 e528 s529),e_bin (za rfl) (za rfl) (za rfl) (r_ar (LO e530)),e_bin (za rfl) ze (za rfl) (r_ar (LO e531)),e_op3 (za rfl) (za rfl) (za rfl) (za rfl) (fun W=>by rw [← e536];exact r_sl (by kernel_rfl) s533 s535 s537 s538 W),e_bin (za rfl) (za rfl) (za rfl) (fun W X Y=>by rw [← e539];exact r_sne W X Y),T5 _ _⟩
     cases h540:v539 with
     | true =>
      exfalso
      have d1:=LD e501 h502;have d2:=LD e506 h507;have hnl:n<rleft x:=(by rw [← e503] at d2;omega);obtain ⟨hw,b0,hb0,hb1⟩:=qx hx hnl;have hat:x.2.1+n<x.1.length:=(List.getElem?_eq_some_iff.1 hb1).1
      have hn0:n509=x.2.1+n:=(by have t:=s511;rw [← e508,hk,wri (by omega)] at t;omega)
      subst hn0
      have hbb:b0=b510:=Option.some.inj (hb1.symm.trans s512)
      subst hbb
      have hbl:=b0.toNat_lt
      have y1:v513=(b0.toNat:Int):=(by rw [← e513,IntKind.wrap_u64];omega)
      have y2:v514=((b0.toNat%128:Nat):Int):=(by rw [← e514,y1];rfl)
      have y3:v515=((7*n:Nat):Int):=(by rw [← e515,hk,wri (by omega)];omega)
      have y4:v518=((sumB ((x.1.drop x.2.1).take (n+1))%18446744073709551616:Nat):Int):=(by rw [← e518,← e517,y2,y3,hc];exact zea hJ (by omega) hb0)
      have d3:=LE e519 h520
      have hs:b0.toNat<128:=(by omega)
      have hC:sumB ((x.1.drop x.2.1).take (n+1))%18446744073709551616<18446744073709551616:=Nat.mod_lt _ (by decide)
      have hp:=eq_of_beq (e524.trans h525)
      have hv:v527=unzig (sumB ((x.1.drop x.2.1).take (n+1))%18446744073709551616):=(by rw [← e523,y4] at hp;rw [← zkK hC hp,← e527,← e526,← e522,← e521,y4])
      have hn1:n532=x.2.1:=(by have t:=s533;omega)
      have hn2:n534=x.2.1+n+1:=(by have t:=s535;rw [← e531,← e530,hk,wri2 (by omega)] at t;omega)
      have hsl:v536=(x.1.drop x.2.1).take (n+1):=(by rw [← e536,hn1,hn2,show x.2.1+n+1 - x.2.1=n+1 by omega])
      have hdn:=zdT hJ (by omega) hb0 hs
      have hq:¬ encI (unzig (sumB ((x.1.drop x.2.1).take (n+1))%18446744073709551616))=(x.1.drop x.2.1).take (n+1):=(by have t:=e539.trans h540;rw [Bool.not_eq_true'] at t;have t2:=ne_of_beq_false t;rw [← e528,hv,hsl] at t2;exact t2)
      rw [if_neg hq] at hdn
      have hz:=zcC hw hdn
      rw [hz] at hg
      cases hg
     | false =>
      obtain ⟨v541,e541⟩:=LX (IntKind.i64.wrap ((x.2.1:Int)+k))
      obtain ⟨v542,e542⟩:=LX (IntKind.i64.wrap (v541+(1:Int)))
      let A7:=fun t=>A6 (pI v541::pI v542::t)
      have f7:LA (KN w0) A7:=fun t h=>f6 _ ⟨zc,zc,h⟩
      have T7:LI (KN w0) Tryz.prog A7 Q5 zAW:=fun t qq=>⟨e_fbv h540,e_bin (za rfl) (za rfl) (za rfl) (r_ar (LO e541)),e_bin (za rfl) ze (za rfl) (r_ar (LO e542)),T6 _ _⟩
      have hq:((v527)=o)∧((v542)=a2)∧True:=by
       refine ⟨?_,?_,trivial⟩
       all_goals (have d1:=LD e501 h502;have d2:=LD e506 h507;have hnl:n<rleft x:=(by rw [← e503] at d2;omega);obtain ⟨hw,b0,hb0,hb1⟩:=qx hx hnl;have hat:x.2.1+n<x.1.length:=(List.getElem?_eq_some_iff.1 hb1).1;have hn0:n509=x.2.1+n:=(by have t:=s511;rw [← e508,hk,wri (by omega)] at t;omega);subst hn0;have hbb:b0=b510:=Option.some.inj (hb1.symm.trans s512);subst hbb;have hbl:=b0.toNat_lt;have y1:v513=(b0.toNat:Int):=(by rw [← e513,IntKind.wrap_u64];omega);have y2:v514=((b0.toNat%128:Nat):Int):=(by rw [← e514,y1];rfl);have y3:v515=((7*n:Nat):Int):=(by rw [← e515,hk,wri (by omega)];omega);have y4:v518=((sumB ((x.1.drop x.2.1).take (n+1))%18446744073709551616:Nat):Int):=(by rw [← e518,← e517,y2,y3,hc];exact zea hJ (by omega) hb0);have d3:=LE e519 h520;have hs:b0.toNat<128:=(by omega);have hC:sumB ((x.1.drop x.2.1).take (n+1))%18446744073709551616<18446744073709551616:=Nat.mod_lt _ (by decide);have hp:=eq_of_beq (e524.trans h525);have hv:v527=unzig (sumB ((x.1.drop x.2.1).take (n+1))%18446744073709551616):=(by rw [← e523,y4] at hp;rw [← zkK hC hp,← e527,← e526,← e522,← e521,y4]);have hn1:n532=x.2.1:=(by have t:=s533;omega);have hn2:n534=x.2.1+n+1:=(by have t:=s535;rw [← e531,← e530,hk,wri2 (by omega)] at t;omega);have hsl:v536=(x.1.drop x.2.1).take (n+1):=(by rw [← e536,hn1,hn2,show x.2.1+n+1 - x.2.1=n+1 by omega]);have hdn:=zdT hJ (by omega) hb0 hs;have hq:encI (unzig (sumB ((x.1.drop x.2.1).take (n+1))%18446744073709551616))=(x.1.drop x.2.1).take (n+1):=(by have t:=e539.trans h540;rw [Bool.not_eq_false'] at t;have t2:=eq_of_beq t;rw [← e528,hv,hsl] at t2;exact t2);rw [if_pos hq] at hdn;have hrf:=zcD hw hdn;rw [hrf] at hO;obtain ⟨h3,h4⟩:=hO;simp only at h3 h4)
       ·rw [hv,h3]
       ·rw [← h4,← e542,← e541,hk,wri2 (by omega)];omega
      obtain ⟨q0,q1,-⟩:=hq
      exact .inl (goes (x:=.r) (y:=.r) (Fb:=FQ (A7 []) [] (Q5 [])) (stb:=za6) (tl:=[.sl 0 (.o (.c (.p 900 0))),.sl 2 (yh 14),.bx 900 79 [.h 0,.h 21,.h 2]]) (C:=zAW) (H:=.no) 5000 (LZ ⟨z_c yy,z_c yy,z_c yy,z_b ⟨yy,yy,yy,trivial⟩,trivial⟩) (zws (f7 [] trivial) trivial (fq5 [] trivial)) (T7 [] []) mixed hR trivial (fun _ _ _ hs=>by cases hs) (by kernel_rfl) rfl (LZ ⟨z_c yy,z_c (fun β v W h=>(zd u3 β v W).2 (by rw [← q0];exact h)),z_b ⟨LV u0,fun β v W h=>(zd u4 β v W).2 (by rw [← q1];exact h),LV u2,trivial⟩,trivial⟩))
    | false =>
     obtain ⟨v526,e526⟩:=LX (encI v522)
     have s527:InI v522:=by (unfold InI;rw [← e522,IntKind.wrap_i64];omega)
     obtain ⟨v528,e528⟩:=LX (IntKind.i64.wrap ((x.2.1:Int)+k))
     obtain ⟨v529,e529⟩:=LX (IntKind.i64.wrap (v528+(1:Int)))
     obtain ⟨n530,s531⟩:∃(n530:Nat),(x.2.1:Int)=(n530:Int):=by exact ⟨x.2.1,rfl⟩
     obtain ⟨n532,s533⟩:∃(n532:Nat),v529=(n532:Int):=by (have d1:=LD e501 h502;have d2:=LD e506 h507;have hnl:n<rleft x:=(by rw [← e503] at d2;omega);obtain ⟨hw,b0,hb0,hb1⟩:=qx hx hnl;have hat:x.2.1+n<x.1.length:=(List.getElem?_eq_some_iff.1 hb1).1;refine ⟨x.2.1+n+1,?_⟩;rw [← e529,← e528,hk,wri2 (by omega)];omega)
     obtain ⟨v534,e534⟩:=LX (((x.1:List UInt8).drop n530).take (n532 - n530))
     have s535:n530≤n532:=by (have d1:=LD e501 h502;have d2:=LD e506 h507;have hnl:n<rleft x:=(by rw [← e503] at d2;omega);obtain ⟨hw,b0,hb0,hb1⟩:=qx hx hnl;have hat:x.2.1+n<x.1.length:=(List.getElem?_eq_some_iff.1 hb1).1;have t1:=s531;have t2:=s533;rw [← e529,← e528,hk,wri2 (by omega)] at t2;omega)
     have s536:n532≤(x.1:List UInt8).length:=by (have d1:=LD e501 h502;have d2:=LD e506 h507;have hnl:n<rleft x:=(by rw [← e503] at d2;omega);obtain ⟨hw,b0,hb0,hb1⟩:=qx hx hnl;have hat:x.2.1+n<x.1.length:=(List.getElem?_eq_some_iff.1 hb1).1;have t1:=s531;have t2:=s533;rw [← e529,← e528,hk,wri2 (by omega)] at t2;omega)
     obtain ⟨v537,e537⟩:=LX (!((v526:List UInt8) == v534))
     let A8:=fun t=>A5 (pS v526::pI v528::pI v529::pS v534::pB v537::t)
     have f8:LA (KN w0) A8:=fun t h=>f5 _ ⟨zc,zc,zc,zc,zc,h⟩
     have T8:LI (KN w0) Tryz.prog A8 Q5 zAX:=fun t qq=>⟨e_fbv h525,zh (zbH v522 v526 e526 s527),e_bin (za rfl) (za rfl) (za rfl) (r_ar (LO e528)),e_bin (za rfl) ze (za rfl) (r_ar (LO e529)),e_op3 (za rfl) (za rfl) (za rfl) (za rfl) (fun W=>by rw [← e534];exact r_sl (by kernel_rfl) s531 s533 s535 s536 W),e_bin (za rfl) (za rfl) (za rfl) (fun W X Y=>by rw [← e537];exact r_sne W X Y),T5 _ _⟩
     cases h538:v537 with
     | true =>
      exfalso
      have d1:=LD e501 h502;have d2:=LD e506 h507;have hnl:n<rleft x:=(by rw [← e503] at d2;omega);obtain ⟨hw,b0,hb0,hb1⟩:=qx hx hnl;have hat:x.2.1+n<x.1.length:=(List.getElem?_eq_some_iff.1 hb1).1
      have hn0:n509=x.2.1+n:=(by have t:=s511;rw [← e508,hk,wri (by omega)] at t;omega)
      subst hn0
      have hbb:b0=b510:=Option.some.inj (hb1.symm.trans s512)
      subst hbb
      have hbl:=b0.toNat_lt
      have y1:v513=(b0.toNat:Int):=(by rw [← e513,IntKind.wrap_u64];omega)
      have y2:v514=((b0.toNat%128:Nat):Int):=(by rw [← e514,y1];rfl)
      have y3:v515=((7*n:Nat):Int):=(by rw [← e515,hk,wri (by omega)];omega)
      have y4:v518=((sumB ((x.1.drop x.2.1).take (n+1))%18446744073709551616:Nat):Int):=(by rw [← e518,← e517,y2,y3,hc];exact zea hJ (by omega) hb0)
      have d3:=LE e519 h520
      have hs:b0.toNat<128:=(by omega)
      have hC:sumB ((x.1.drop x.2.1).take (n+1))%18446744073709551616<18446744073709551616:=Nat.mod_lt _ (by decide)
      have hp:=ne_of_beq_false (e524.trans h525)
      have hv:v522=unzig (sumB ((x.1.drop x.2.1).take (n+1))%18446744073709551616):=(by rw [← e523,y4] at hp;rw [← zht hC hp,← e522,← e521,y4])
      have hn1:n530=x.2.1:=(by have t:=s531;omega)
      have hn2:n532=x.2.1+n+1:=(by have t:=s533;rw [← e529,← e528,hk,wri2 (by omega)] at t;omega)
      have hsl:v534=(x.1.drop x.2.1).take (n+1):=(by rw [← e534,hn1,hn2,show x.2.1+n+1 - x.2.1=n+1 by omega])
      have hdn:=zdT hJ (by omega) hb0 hs
      have hq:¬ encI (unzig (sumB ((x.1.drop x.2.1).take (n+1))%18446744073709551616))=(x.1.drop x.2.1).take (n+1):=(by have t:=e537.trans h538;rw [Bool.not_eq_true'] at t;have t2:=ne_of_beq_false t;rw [← e526,hv,hsl] at t2;exact t2)
      rw [if_neg hq] at hdn
      have hz:=zcC hw hdn
      rw [hz] at hg
      cases hg
     | false =>
      obtain ⟨v539,e539⟩:=LX (IntKind.i64.wrap ((x.2.1:Int)+k))
      obtain ⟨v540,e540⟩:=LX (IntKind.i64.wrap (v539+(1:Int)))
      let A9:=fun t=>A8 (pI v539::pI v540::t)
      have f9:LA (KN w0) A9:=fun t h=>f8 _ ⟨zc,zc,h⟩
      have T9:LI (KN w0) Tryz.prog A9 Q5 zAY:=fun t qq=>⟨e_fbv h538,e_bin (za rfl) (za rfl) (za rfl) (r_ar (LO e539)),e_bin (za rfl) ze (za rfl) (r_ar (LO e540)),T8 _ _⟩
      have hq:((v522)=o)∧((v540)=a2)∧True:=by
       refine ⟨?_,?_,trivial⟩
       all_goals (have d1:=LD e501 h502;have d2:=LD e506 h507;have hnl:n<rleft x:=(by rw [← e503] at d2;omega);obtain ⟨hw,b0,hb0,hb1⟩:=qx hx hnl;have hat:x.2.1+n<x.1.length:=(List.getElem?_eq_some_iff.1 hb1).1;have hn0:n509=x.2.1+n:=(by have t:=s511;rw [← e508,hk,wri (by omega)] at t;omega);subst hn0;have hbb:b0=b510:=Option.some.inj (hb1.symm.trans s512);subst hbb;have hbl:=b0.toNat_lt;have y1:v513=(b0.toNat:Int):=(by rw [← e513,IntKind.wrap_u64];omega);have y2:v514=((b0.toNat%128:Nat):Int):=(by rw [← e514,y1];rfl);have y3:v515=((7*n:Nat):Int):=(by rw [← e515,hk,wri (by omega)];omega);have y4:v518=((sumB ((x.1.drop x.2.1).take (n+1))%18446744073709551616:Nat):Int):=(by rw [← e518,← e517,y2,y3,hc];exact zea hJ (by omega) hb0);have d3:=LE e519 h520;have hs:b0.toNat<128:=(by omega);have hC:sumB ((x.1.drop x.2.1).take (n+1))%18446744073709551616<18446744073709551616:=Nat.mod_lt _ (by decide);have hp:=ne_of_beq_false (e524.trans h525);have hv:v522=unzig (sumB ((x.1.drop x.2.1).take (n+1))%18446744073709551616):=(by rw [← e523,y4] at hp;rw [← zht hC hp,← e522,← e521,y4]);have hn1:n530=x.2.1:=(by have t:=s531;omega);have hn2:n532=x.2.1+n+1:=(by have t:=s533;rw [← e529,← e528,hk,wri2 (by omega)] at t;omega);have hsl:v534=(x.1.drop x.2.1).take (n+1):=(by rw [← e534,hn1,hn2,show x.2.1+n+1 - x.2.1=n+1 by omega]);have hdn:=zdT hJ (by omega) hb0 hs;have hq:encI (unzig (sumB ((x.1.drop x.2.1).take (n+1))%18446744073709551616))=(x.1.drop x.2.1).take (n+1):=(by have t:=e537.trans h538;rw [Bool.not_eq_false'] at t;have t2:=eq_of_beq t;rw [← e526,hv,hsl] at t2;exact t2);rw [if_pos hq] at hdn;have hrf:=zcD hw hdn;rw [hrf] at hO;obtain ⟨h3,h4⟩:=hO;simp only at h3 h4)
       ·rw [hv,h3]
       ·rw [← h4,← e540,← e539,hk,wri2 (by omega)];omega
      obtain ⟨q0,q1,-⟩:=hq
      exact .inl (goes (x:=.r) (y:=.r) (Fb:=FQ (A9 []) [] (Q5 [])) (stb:=za6) (tl:=[.sl 0 (.o (.c (.p 900 0))),.sl 2 (yh 11),.bx 900 79 [.h 0,.h 19,.h 2]]) (C:=zAY) (H:=.no) 5000 (LZ ⟨z_c yy,z_c yy,z_c yy,z_b ⟨yy,yy,yy,trivial⟩,trivial⟩) (zws (f9 [] trivial) trivial (fq5 [] trivial)) (T9 [] []) mixed hR trivial (fun _ _ _ hs=>by cases hs) (by kernel_rfl) rfl (LZ ⟨z_c yy,z_c (fun β v W h=>(zd u3 β v W).2 (by rw [← q0];exact h)),z_b ⟨LV u0,fun β v W h=>(zd u4 β v W).2 (by rw [← q1];exact h),LV u2,trivial⟩,trivial⟩))
  | false =>
   exfalso
   have d2:=LE e506 h507
   have hz:rfI x=(0,zBR x):=(by cases hw:x.2.2 with | true=>exact zhk hw | false=>(refine zcC hw (zpB hJ (.inl ?_));rw [← zl4 hw];rw [← e503] at d2;omega))
   rw [hz] at hg
   cases hg
 | false =>
  exfalso
  have d1:=LE e501 h502
  have hz:rfI x=(0,zBR x):=(by cases hw:x.2.2 with | true=>exact zhk hw | false=>exact zcC hw (zpB hJ (.inr (by omega))))
  rw [hz] at hg
  cases hg
structure rfB_T where
 code:Int
 k:Int
def q6:List Atom:=[.sl 0 (.o (.c (.p 900 0))),.sl 3 (yh 5000),.sl 4 (yh 3),.bx 900 79 [.h 0,.h 1,.h 2]]
def rfB_S:LoopS:=⟨3,[.sl 0 (.o (.c (.p 900 0))),.sl 3 (.o (.c (.k (.int .u64 0)))),.sl 4 (.o (.c (.k (.int .i64 0)))),.bx 900 79 [.h 0,.h 1,.h 2]],(.x 0),[.sl 0 (.o (.c (.p 900 0))),.bx 900 79 [.h 0,.h 1,.h 2]]⟩
abbrev zAl:List (Nat×Ent):=(1005001,.bin .lss 3 (yh 3) (LF (.k (.int .i64 10))) (yh 4))::[]
abbrev zAo:List (Nat×Ent):=(10004,.fb 4 true)::(1005005,.call ⟨22,[.o (.c (.p 900 0))],[.bx 900 79 [.h 0,.h 1,.h 2]],yh 5,[.bx 900 79 [.h 0,.h 1,.h 2]]⟩)::(1005006,.bin .lss 3 (yh 3) (yh 5) (yh 6))::zAl
abbrev zAp:List (Nat×Ent):=(10006,.fb 6 true)::(1005017,.bin .add 3 (yh 1) (yh 3) (yh 7))::(1005018,.op (.ix 9) [yh 0,yh 7] [] (yh 8))::(1005019,.op (.cv 5 72) [yh 8] [] (yh 5001))::(1005023,.bin .rem 72 (yh 5001) (LF (.k (.int .u64 128))) (yh 5002))::(1005025,.bin .mul 3 (LF (.k (.int .i64 7))) (yh 3) (yh 9))::(1005026,.bin .shl 72 (yh 5002) (yh 9) (yh 5003))::(1005027,.bin .add 72 (yh 5000) (yh 5003) (yh 5004))::(1005030,.bin .geq 72 (yh 5001) (LF (.k (.int .u64 128))) (yh 10))::zAo
abbrev zAZ:List (Nat×Ent):=(10010,.fb 10 true)::(1005032,.bin .add 3 (yh 3) (LF (.k (.int .i64 1))) (yh 11))::zAp
abbrev zAq:List (Nat×Ent):=(10010,.fb 10 false)::(1005032,.bin .quo 72 (yh 5004) (LF (.k (.int .u64 2))) (yh 5005))::(1005033,.op (.cv 72 3) [yh 5005] [] (yh 11))::(1005036,.bin .rem 72 (yh 5004) (LF (.k (.int .u64 2))) (yh 5006))::(1005037,.bin .eql 72 (yh 5006) (LF (.k (.int .u64 1))) (yh 12))::zAp
abbrev zA0:List (Nat×Ent):=(10012,.fb 12 true)::(1005039,.un .neg (yh 11) (yh 13))::(1005040,.bin .sub 3 (yh 13) (LF (.k (.int .i64 1))) (yh 14))::(1005043,.call ⟨13,[yh 14],[],yh 15,[]⟩)::(1005057,.bin .add 3 (yh 1) (yh 3) (yh 16))::(1005058,.bin .add 3 (yh 16) (LF (.k (.int .i64 1))) (yh 17))::(1005059,.op (.sc 9 true true false) [yh 0,yh 1,yh 17] [] (yh 18))::(1005060,.bin .neq 9 (yh 15) (yh 18) (yh 19))::zAq
abbrev zA1:List (Nat×Ent):=(10019,.fb 19 true)::zA0
abbrev zA2:List (Nat×Ent):=(10012,.fb 12 false)::(1005039,.call ⟨13,[yh 11],[],yh 13,[]⟩)::(1005053,.bin .add 3 (yh 1) (yh 3) (yh 14))::(1005054,.bin .add 3 (yh 14) (LF (.k (.int .i64 1))) (yh 15))::(1005055,.op (.sc 9 true true false) [yh 0,yh 1,yh 15] [] (yh 16))::(1005056,.bin .neq 9 (yh 13) (yh 16) (yh 17))::zAq
abbrev zA3:List (Nat×Ent):=(10017,.fb 17 true)::zA2
abbrev zAm:List (Nat×Ent):=(10006,.fb 6 false)::zAo
abbrev zAn:List (Nat×Ent):=(10004,.fb 4 false)::zAl
theorem zvL {w0:World} (x:RS) {F:Fact} (u0:F.c 0=pS x.1) (u1:F.c 1=pI (x.2.1:Int)) (u2:F.c 2=pB x.2.2) (R:Frm) (hR:R.pm=⟨ntOf Tryz.prog 50,[900],[]⟩) (hx:okRS x) (hlen:x.1.length<9223372036854775808) (hg:¬ (rfI x).2.2.2=false):zj (KN w0) Tryz.prog F R rfB_S (lp Tryz.prog 50 0):=by
 refine zG (T:=rfB_T) (fun t=>FL [pS x.1,pI (x.2.1:Int),pB x.2.2,pI t.k] [] [(5000,pV (.int .u64 t.code))]) (fun ⟨code,k⟩=>∃n c:Nat,k=(n:Int)∧code=(c:Int)∧RfJ (x.1.drop x.2.1) n c) (fun ⟨code,k⟩=>(10 - k).toNat) { code:=(0:Int),k:=(0:Int) } q6 ⟨0,0,rfl,rfl,ziA _⟩ (LZ ⟨z_c yy,z_c yy,z_c yy,z_b ⟨LU u0,LU u1,LU u2,trivial⟩,trivial⟩) rfl fun t hJ=>?_
 obtain ⟨code,k⟩:=t
 dsimp only at hJ
 obtain ⟨n,c,hk,hc,hJ⟩:=hJ
 have hk10:=hJ.2.1
 obtain ⟨v501,e501⟩:=LX (decide (k<(10:Int)))
 let A1:List Pred→List Pred:=fun t=>pS x.1::pI (x.2.1:Int)::pB x.2.2::pI k::pB v501::t
 have f1:LA (KN w0) A1:=fun t h=>⟨zc,zc,zc,zc,zc,h⟩
 let Q1:List (Nat×Pred)→List (Nat×Pred):=fun t=>(5000,pV (.int .u64 code))::t
 have fq1:LQ (KN w0) Q1:=fun t h=>⟨⟨rfl,zu⟩,h⟩
 have T1:LI (KN w0) Tryz.prog A1 Q1 zAl:=fun t qq=>⟨e_bin (za rfl) ze (za rfl) (r_cmp (LO e501)),trivial⟩
 cases h502:v501 with
 | true =>
  obtain ⟨v503,e503⟩:=LX ((rleft x:Int))
  have s504:okRS x:=by exact hx
  have s505:x.1.length<9223372036854775808:=by exact hlen
  obtain ⟨v506,e506⟩:=LX (decide (k<v503))
  let A2:=fun t=>A1 (pI v503::pB v506::t)
  have f2:LA (KN w0) A2:=fun t h=>f1 _ ⟨zc,zc,h⟩
  have T2:LI (KN w0) Tryz.prog A2 Q1 zAo:=fun t qq=>⟨e_fbv h502,b_con (pan:=false) (za9 x v503 e503 s504 s505),e_bin (za rfl) (za rfl) (za rfl) (r_cmp (LO e506)),T1 _ _⟩
  cases h507:v506 with
  | true =>
   obtain ⟨v508,e508⟩:=LX (IntKind.i64.wrap ((x.2.1:Int)+k))
   obtain ⟨n509,b510,s511,s512⟩:∃(n509:Nat) (b510:UInt8),v508=(n509:Int)∧(x.1:List UInt8)[n509]?=some b510:=by (have d1:=LD e501 h502;have d2:=LD e506 h507;have hnl:n<rleft x:=(by rw [← e503] at d2;omega);obtain ⟨hw,b0,hb0,hb1⟩:=qx hx hnl;have hat:x.2.1+n<x.1.length:=(List.getElem?_eq_some_iff.1 hb1).1;exact ⟨x.2.1+n,b0,by rw [← e508,hk,wri (by omega)];omega,hb1⟩)
   obtain ⟨v513,e513⟩:=LX (IntKind.u64.wrap (b510.toNat:Int))
   obtain ⟨v514,e514⟩:=LX ((v513:Int).tmod (128:Int))
   obtain ⟨v515,e515⟩:=LX (IntKind.i64.wrap ((7:Int)*k))
   have s516:0≤v515:=by (have d1:=LD e501 h502;rw [← e515,hk,wri (by omega)];omega)
   obtain ⟨v517,e517⟩:=LX (IntKind.u64.wrap (v514*2 ^ min (v515:Int).toNat IntKind.u64.bits))
   obtain ⟨v518,e518⟩:=LX (IntKind.u64.wrap (code+v517))
   obtain ⟨v519,e519⟩:=LX (decide (v513 ≥ (128:Int)))
   let A3:=fun t=>A2 (pI v508::pV (.int .u8 (b510.toNat:Int))::pI v515::pB v519::t)
   have f3:LA (KN w0) A3:=fun t h=>f2 _ ⟨zc,zc,zc,zc,h⟩
   let Q3:=fun t=>Q1 ((5001,pV (.int .u64 v513))::(5002,pV (.int .u64 v514))::(5003,pV (.int .u64 v517))::(5004,pV (.int .u64 v518))::t)
   have fq3:LQ (KN w0) Q3:=fun t h=>fq1 _ ⟨⟨rfl,zu⟩,⟨rfl,zu⟩,⟨rfl,zu⟩,⟨rfl,zu⟩,h⟩
   have T3:LI (KN w0) Tryz.prog A3 Q3 zAp:=fun t qq=>⟨e_fbv h507,e_bin (za rfl) (za rfl) (za rfl) (r_ar (LO e508)),e_op2 (za rfl) (za rfl) (za rfl) (r_ix (by kernel_rfl) s511 s512),e_op1 (za rfl) (za rfl) (fun W=>by rw [← e513];exact r_cvi (by kernel_rfl) (by kernel_rfl) W),e_bin (za rfl) ze (za rfl) (r_ar ((qB (by decide)).trans (LO e514))),e_bin ze (za rfl) (za rfl) (r_ar (LO e515)),e_bin (za rfl) (za rfl) (za rfl) (fun W X Y=>by rw [← e517];exact r_shl s516 W X Y),e_bin (za rfl) (za rfl) (za rfl) (r_ar (LO e518)),e_bin (za rfl) ze (za rfl) (r_cmp (LO e519)),T2 _ _⟩
   cases h520:v519 with
   | true =>
    obtain ⟨v521,e521⟩:=LX (IntKind.i64.wrap (k+(1:Int)))
    let A4:=fun t=>A3 (pI v521::t)
    have f4:LA (KN w0) A4:=fun t h=>f3 _ ⟨zc,h⟩
    have T4:LI (KN w0) Tryz.prog A4 Q3 zAZ:=fun t qq=>⟨e_fbv h520,e_bin (za rfl) ze (za rfl) (r_ar (LO e521)),T3 _ _⟩
    refine .inr ⟨⟨v518,v521⟩,?_,?_,goes (x:=.n) (y:=.n) (Fb:=FQ (A4 []) [] (Q3 [])) (stb:=q6) (tl:=[.sl 0 (.o (.c (.p 900 0))),.sl 3 (yh 5004),.sl 4 (yh 11),.bx 900 79 [.h 0,.h 1,.h 2]]) (C:=zAZ) (H:=.no) 5000 (LZ ⟨z_c yy,z_c yy,z_c yy,z_b ⟨yy,yy,yy,trivial⟩,trivial⟩) (zws (f4 [] trivial) trivial (fq3 [] trivial)) (T4 [] []) mixed hR trivial (fun _ _ _ hs=>by cases hs) (by kernel_rfl) rfl (LZ ⟨z_c yy,z_c (fun β v W h=>(zd rfl β v W).2 h),z_c (fun β v W h=>(zd rfl β v W).2 h),z_b ⟨yy,yy,yy,trivial⟩,trivial⟩)⟩
    all_goals (have d1:=LD e501 h502;have d2:=LD e506 h507;have hnl:n<rleft x:=(by rw [← e503] at d2;omega);obtain ⟨hw,b0,hb0,hb1⟩:=qx hx hnl;have hat:x.2.1+n<x.1.length:=(List.getElem?_eq_some_iff.1 hb1).1;have hn0:n509=x.2.1+n:=(by have t:=s511;rw [← e508,hk,wri (by omega)] at t;omega);subst hn0;have hbb:b0=b510:=Option.some.inj (hb1.symm.trans s512);subst hbb;have hbl:=b0.toNat_lt;have y1:v513=(b0.toNat:Int):=(by rw [← e513,IntKind.wrap_u64];omega);have y2:v514=((b0.toNat%128:Nat):Int):=(by rw [← e514,y1];rfl);have y3:v515=((7*n:Nat):Int):=(by rw [← e515,hk,wri (by omega)];omega);have y4:v518=((sumB ((x.1.drop x.2.1).take (n+1))%18446744073709551616:Nat):Int):=(by rw [← e518,← e517,y2,y3,hc];exact zea hJ (by omega) hb0);have d3:=LD e519 h520;have hs:128≤b0.toNat:=(by omega);have x4:v521=((n+1:Nat):Int):=(by rw [← e521,hk,wri (by omega)];omega))
    ·show (10 - v521).toNat<(10 - k).toNat
     omega
    ·exact ⟨n+1,_,x4,y4,zl0 hJ (by omega) hb0 hs⟩
   | false =>
    obtain ⟨v521,e521⟩:=LX (IntKind.u64.wrap ((v518:Int).tdiv (2:Int)))
    obtain ⟨v522,e522⟩:=LX (IntKind.i64.wrap v521)
    obtain ⟨v523,e523⟩:=LX ((v518:Int).tmod (2:Int))
    obtain ⟨v524,e524⟩:=LX ((v523 == (1:Int)))
    let A5:=fun t=>A3 (pI v522::pB v524::t)
    have f5:LA (KN w0) A5:=fun t h=>f3 _ ⟨zc,zc,h⟩
    let Q5:=fun t=>Q3 ((5005,pV (.int .u64 v521))::(5006,pV (.int .u64 v523))::t)
    have fq5:LQ (KN w0) Q5:=fun t h=>fq3 _ ⟨⟨rfl,zu⟩,⟨rfl,zu⟩,h⟩
    have T5:LI (KN w0) Tryz.prog A5 Q5 zAq:=fun t qq=>⟨e_fbv h520,e_bin (za rfl) ze (za rfl) (r_ar ((zhS (by decide)).trans (LO e521))),e_op1 (za rfl) (za rfl) (fun W=>by rw [← e522];exact r_cvi (by kernel_rfl) (by kernel_rfl) W),e_bin (za rfl) ze (za rfl) (r_ar ((qB (by decide)).trans (LO e523))),e_bin (za rfl) ze (za rfl) (r_cmp (LO e524)),T3 _ _⟩
    cases h525:v524 with
    | true =>
     obtain ⟨v526,e526⟩:=LX (IntKind.i64.wrap (0 - v522))
     obtain ⟨v527,e527⟩:=LX (IntKind.i64.wrap (v526 - (1:Int)))
     obtain ⟨v528,e528⟩:=LX (encI v527)
     have s529:InI v527:=by (unfold InI;rw [← e527,IntKind.wrap_i64];omega)
     obtain ⟨v530,e530⟩:=LX (IntKind.i64.wrap ((x.2.1:Int)+k))
     obtain ⟨v531,e531⟩:=LX (IntKind.i64.wrap (v530+(1:Int)))
     obtain ⟨n532,s533⟩:∃(n532:Nat),(x.2.1:Int)=(n532:Int):=by exact ⟨x.2.1,rfl⟩
     obtain ⟨n534,s535⟩:∃(n534:Nat),v531=(n534:Int):=by (have d1:=LD e501 h502;have d2:=LD e506 h507;have hnl:n<rleft x:=(by rw [← e503] at d2;omega);obtain ⟨hw,b0,hb0,hb1⟩:=qx hx hnl;have hat:x.2.1+n<x.1.length:=(List.getElem?_eq_some_iff.1 hb1).1;refine ⟨x.2.1+n+1,?_⟩;rw [← e531,← e530,hk,wri2 (by omega)];omega)
     obtain ⟨v536,e536⟩:=LX (((x.1:List UInt8).drop n532).take (n534 - n532))
     have s537:n532≤n534:=by (have d1:=LD e501 h502;have d2:=LD e506 h507;have hnl:n<rleft x:=(by rw [← e503] at d2;omega);obtain ⟨hw,b0,hb0,hb1⟩:=qx hx hnl;have hat:x.2.1+n<x.1.length:=(List.getElem?_eq_some_iff.1 hb1).1;have t1:=s533;have t2:=s535;rw [← e531,← e530,hk,wri2 (by omega)] at t2;omega)
     have s538:n534≤(x.1:List UInt8).length:=by (have d1:=LD e501 h502;have d2:=LD e506 h507;have hnl:n<rleft x:=(by rw [← e503] at d2;omega);obtain ⟨hw,b0,hb0,hb1⟩:=qx hx hnl;have hat:x.2.1+n<x.1.length:=(List.getElem?_eq_some_iff.1 hb1).1;have t1:=s533;have t2:=s535;rw [← e531,← e530,hk,wri2 (by omega)] at t2;omega)
     obtain ⟨v539,e539⟩:=LX (!((v528:List UInt8) == v536))
     let A6:=fun t=>A5 (pI v526::pI v527::pS v528::pI v530::pI v531::pS v536::pB v539::t)
     have f6:LA (KN w0) A6:=fun t h=>f5 _ ⟨zc,zc,zc,zc,zc,zc,zc,h⟩
     have T6:LI (KN w0) Tryz.prog A6 Q5 zA0:=fun t qq=>⟨e_fbv h525,e_un (za rfl) (za rfl) (fun W=>by rw [← e526];exact r_neg W),e_bin (za rfl) ze (za rfl) (r_ar (LO e527)),zh (zbH v527 v528 e528 s529),e_bin (za rfl) (za rfl) (za rfl) (r_ar (LO e530)),e_bin (za rfl) ze (za rfl) (r_ar (LO e531)),e_op3 (za rfl) (za rfl) (za rfl) (za rfl) (fun W=>by rw [← e536];exact r_sl (by kernel_rfl) s533 s535 s537 s538 W),e_bin (za rfl) (za rfl) (za rfl) (fun W X Y=>by rw [← e539];exact r_sne W X Y),T5 _ _⟩
     cases h540:v539 with
     | true =>
      have T7:LI (KN w0) Tryz.prog A6 Q5 zA1:=fun t qq=>⟨e_fbv h540,T6 _ _⟩
      exact .inl (goes (x:=(.x 0)) (y:=(.x 0)) (Fb:=FQ (A6 []) [] (Q5 [])) (stb:=q6) (tl:=[.sl 0 (.o (.c (.p 900 0))),.bx 900 79 [.h 0,.h 1,.h 2]]) (C:=zA1) (H:=.no) 5000 (LZ ⟨z_c yy,z_c yy,z_c yy,z_b ⟨yy,yy,yy,trivial⟩,trivial⟩) (zws (f6 [] trivial) trivial (fq5 [] trivial)) (T7 [] []) mixed hR trivial (fun _ _ _ hs=>by cases hs) (by kernel_rfl) rfl (LZ ⟨z_c yy,z_b ⟨LV u0,LV u1,LV u2,trivial⟩,trivial⟩))
     | false =>
      obtain ⟨v541,e541⟩:=LX (IntKind.i64.wrap ((x.2.1:Int)+k))
      obtain ⟨v542,e542⟩:=LX (IntKind.i64.wrap (v541+(1:Int)))
      exfalso
      have d1:=LD e501 h502;have d2:=LD e506 h507;have hnl:n<rleft x:=(by rw [← e503] at d2;omega);obtain ⟨hw,b0,hb0,hb1⟩:=qx hx hnl;have hat:x.2.1+n<x.1.length:=(List.getElem?_eq_some_iff.1 hb1).1
      have hn0:n509=x.2.1+n:=(by have t:=s511;rw [← e508,hk,wri (by omega)] at t;omega)
      subst hn0
      have hbb:b0=b510:=Option.some.inj (hb1.symm.trans s512)
      subst hbb
      have hbl:=b0.toNat_lt
      have y1:v513=(b0.toNat:Int):=(by rw [← e513,IntKind.wrap_u64];omega)
      have y2:v514=((b0.toNat%128:Nat):Int):=(by rw [← e514,y1];rfl)
      have y3:v515=((7*n:Nat):Int):=(by rw [← e515,hk,wri (by omega)];omega)
      have y4:v518=((sumB ((x.1.drop x.2.1).take (n+1))%18446744073709551616:Nat):Int):=(by rw [← e518,← e517,y2,y3,hc];exact zea hJ (by omega) hb0)
      have d3:=LE e519 h520
      have hs:b0.toNat<128:=(by omega)
      have hC:sumB ((x.1.drop x.2.1).take (n+1))%18446744073709551616<18446744073709551616:=Nat.mod_lt _ (by decide)
      have hp:=eq_of_beq (e524.trans h525)
      have hv:v527=unzig (sumB ((x.1.drop x.2.1).take (n+1))%18446744073709551616):=(by rw [← e523,y4] at hp;rw [← zkK hC hp,← e527,← e526,← e522,← e521,y4])
      have hn1:n532=x.2.1:=(by have t:=s533;omega)
      have hn2:n534=x.2.1+n+1:=(by have t:=s535;rw [← e531,← e530,hk,wri2 (by omega)] at t;omega)
      have hsl:v536=(x.1.drop x.2.1).take (n+1):=(by rw [← e536,hn1,hn2,show x.2.1+n+1 - x.2.1=n+1 by omega])
      have hdn:=zdT hJ (by omega) hb0 hs
      have hq:encI (unzig (sumB ((x.1.drop x.2.1).take (n+1))%18446744073709551616))=(x.1.drop x.2.1).take (n+1):=(by have t:=e539.trans h540;rw [Bool.not_eq_false'] at t;have t2:=eq_of_beq t;rw [← e528,hv,hsl] at t2;exact t2)
      rw [if_pos hq] at hdn
      have hrf:=zcD hw hdn
      exact hg (by rw [hrf])
    | false =>
     obtain ⟨v526,e526⟩:=LX (encI v522)
     have s527:InI v522:=by (unfold InI;rw [← e522,IntKind.wrap_i64];omega)
     obtain ⟨v528,e528⟩:=LX (IntKind.i64.wrap ((x.2.1:Int)+k))
     obtain ⟨v529,e529⟩:=LX (IntKind.i64.wrap (v528+(1:Int)))
     obtain ⟨n530,s531⟩:∃(n530:Nat),(x.2.1:Int)=(n530:Int):=by exact ⟨x.2.1,rfl⟩
     obtain ⟨n532,s533⟩:∃(n532:Nat),v529=(n532:Int):=by (have d1:=LD e501 h502;have d2:=LD e506 h507;have hnl:n<rleft x:=(by rw [← e503] at d2;omega);obtain ⟨hw,b0,hb0,hb1⟩:=qx hx hnl;have hat:x.2.1+n<x.1.length:=(List.getElem?_eq_some_iff.1 hb1).1;refine ⟨x.2.1+n+1,?_⟩;rw [← e529,← e528,hk,wri2 (by omega)];omega)
     obtain ⟨v534,e534⟩:=LX (((x.1:List UInt8).drop n530).take (n532 - n530))
     have s535:n530≤n532:=by (have d1:=LD e501 h502;have d2:=LD e506 h507;have hnl:n<rleft x:=(by rw [← e503] at d2;omega);obtain ⟨hw,b0,hb0,hb1⟩:=qx hx hnl;have hat:x.2.1+n<x.1.length:=(List.getElem?_eq_some_iff.1 hb1).1;have t1:=s531;have t2:=s533;rw [← e529,← e528,hk,wri2 (by omega)] at t2;omega)
     have s536:n532≤(x.1:List UInt8).length:=by (have d1:=LD e501 h502;have d2:=LD e506 h507;have hnl:n<rleft x:=(by rw [← e503] at d2;omega);obtain ⟨hw,b0,hb0,hb1⟩:=qx hx hnl;have hat:x.2.1+n<x.1.length:=(List.getElem?_eq_some_iff.1 hb1).1;have t1:=s531;have t2:=s533;rw [← e529,← e528,hk,wri2 (by omega)] at t2;omega)
     obtain ⟨v537,e537⟩:=LX (!((v526:List UInt8) == v534))
     let A8:=fun t=>A5 (pS v526::pI v528::pI v529::pS v534::pB v537::t)
     have f8:LA (KN w0) A8:=fun t h=>f5 _ ⟨zc,zc,zc,zc,zc,h⟩
     have T8:LI (KN w0) Tryz.prog A8 Q5 zA2:=fun t qq=>⟨e_fbv h525,zh (zbH v522 v526 e526 s527),e_bin (za rfl) (za rfl) (za rfl) (r_ar (LO e528)),e_bin (za rfl) ze (za rfl) (r_ar (LO e529)),e_op3 (za rfl) (za rfl) (za rfl) (za rfl) (fun W=>by rw [← e534];exact r_sl (by kernel_rfl) s531 s533 s535 s536 W),e_bin (za rfl) (za rfl) (za rfl) (fun W X Y=>by rw [← e537];exact r_sne W X Y),T5 _ _⟩
     cases h538:v537 with
     | true =>
      have T9:LI (KN w0) Tryz.prog A8 Q5 zA3:=fun t qq=>⟨e_fbv h538,T8 _ _⟩
      exact .inl (goes (x:=(.x 0)) (y:=(.x 0)) (Fb:=FQ (A8 []) [] (Q5 [])) (stb:=q6) (tl:=[.sl 0 (.o (.c (.p 900 0))),.bx 900 79 [.h 0,.h 1,.h 2]]) (C:=zA3) (H:=.no) 5000 (LZ ⟨z_c yy,z_c yy,z_c yy,z_b ⟨yy,yy,yy,trivial⟩,trivial⟩) (zws (f8 [] trivial) trivial (fq5 [] trivial)) (T9 [] []) mixed hR trivial (fun _ _ _ hs=>by cases hs) (by kernel_rfl) rfl (LZ ⟨z_c yy,z_b ⟨LV u0,LV u1,LV u2,trivial⟩,trivial⟩))
     | false =>
      obtain ⟨v539,e539⟩:=LX (IntKind.i64.wrap ((x.2.1:Int)+k))
      obtain ⟨v540,e540⟩:=LX (IntKind.i64.wrap (v539+(1:Int)))
      exfalso
      have d1:=LD e501 h502;have d2:=LD e506 h507;have hnl:n<rleft x:=(by rw [← e503] at d2;omega);obtain ⟨hw,b0,hb0,hb1⟩:=qx hx hnl;have hat:x.2.1+n<x.1.length:=(List.getElem?_eq_some_iff.1 hb1).1
      have hn0:n509=x.2.1+n:=(by have t:=s511;rw [← e508,hk,wri (by omega)] at t;omega)
      subst hn0
      have hbb:b0=b510:=Option.some.inj (hb1.symm.trans s512)
      subst hbb
      have hbl:=b0.toNat_lt
      have y1:v513=(b0.toNat:Int):=(by rw [← e513,IntKind.wrap_u64];omega)
      have y2:v514=((b0.toNat%128:Nat):Int):=(by rw [← e514,y1];rfl)
      have y3:v515=((7*n:Nat):Int):=(by rw [← e515,hk,wri (by omega)];omega)
      have y4:v518=((sumB ((x.1.drop x.2.1).take (n+1))%18446744073709551616:Nat):Int):=(by rw [← e518,← e517,y2,y3,hc];exact zea hJ (by omega) hb0)
      have d3:=LE e519 h520
      have hs:b0.toNat<128:=(by omega)
      have hC:sumB ((x.1.drop x.2.1).take (n+1))%18446744073709551616<18446744073709551616:=Nat.mod_lt _ (by decide)
      have hp:=ne_of_beq_false (e524.trans h525)
      have hv:v522=unzig (sumB ((x.1.drop x.2.1).take (n+1))%18446744073709551616):=(by rw [← e523,y4] at hp;rw [← zht hC hp,← e522,← e521,y4])
      have hn1:n530=x.2.1:=(by have t:=s531;omega)
      have hn2:n532=x.2.1+n+1:=(by have t:=s533;rw [← e529,← e528,hk,wri2 (by omega)] at t;omega)
      have hsl:v534=(x.1.drop x.2.1).take (n+1):=(by rw [← e534,hn1,hn2,show x.2.1+n+1 - x.2.1=n+1 by omega])
      have hdn:=zdT hJ (by omega) hb0 hs
      have hq:encI (unzig (sumB ((x.1.drop x.2.1).take (n+1))%18446744073709551616))=(x.1.drop x.2.1).take (n+1):=(by have t:=e537.trans h538;rw [Bool.not_eq_false'] at t;have t2:=eq_of_beq t;rw [← e526,hv,hsl] at t2;exact t2)
      rw [if_pos hq] at hdn
      have hrf:=zcD hw hdn
      exact hg (by rw [hrf])
  | false =>
   have T10:LI (KN w0) Tryz.prog A2 Q1 zAm:=fun t qq=>⟨e_fbv h507,T2 _ _⟩
   exact .inl (goes (x:=(.x 0)) (y:=(.x 0)) (Fb:=FQ (A2 []) [] (Q1 [])) (stb:=q6) (tl:=[.sl 0 (.o (.c (.p 900 0))),.bx 900 79 [.h 0,.h 1,.h 2]]) (C:=zAm) (H:=.no) 5000 (LZ ⟨z_c yy,z_c yy,z_c yy,z_b ⟨yy,yy,yy,trivial⟩,trivial⟩) (zws (f2 [] trivial) trivial (fq1 [] trivial)) (T10 [] []) mixed hR trivial (fun _ _ _ hs=>by cases hs) (by kernel_rfl) rfl (LZ ⟨z_c yy,z_b ⟨LV u0,LV u1,LV u2,trivial⟩,trivial⟩))
 | false =>
  have T11:LI (KN w0) Tryz.prog A1 Q1 zAn:=fun t qq=>⟨e_fbv h502,T1 _ _⟩
  exact .inl (goes (x:=(.x 0)) (y:=(.x 0)) (Fb:=FQ (A1 []) [] (Q1 [])) (stb:=q6) (tl:=[.sl 0 (.o (.c (.p 900 0))),.bx 900 79 [.h 0,.h 1,.h 2]]) (C:=zAn) (H:=.no) 5000 (LZ ⟨z_c yy,z_c yy,z_c yy,z_b ⟨yy,yy,yy,trivial⟩,trivial⟩) (zws (f1 [] trivial) trivial (fq1 [] trivial)) (T11 [] []) mixed hR trivial (fun _ _ _ hs=>by cases hs) (by kernel_rfl) rfl (LZ ⟨z_c yy,z_b ⟨LV u0,LV u1,LV u2,trivial⟩,trivial⟩))
theorem zlY {x:RS} (hg:(rfI x).2.2.2=false):x.2.2=false∧(rfI x).2.1=x.1:=by
 cases hw:x.2.2 with
 | true=>rw [zhk hw] at hg;cases hg
 | false =>
  refine ⟨rfl,?_⟩
  cases hr:refI (x.1.drop x.2.1) with
  | none=>rw [zcC hw hr];rfl
  | some y=>rw [zcD hw hr]
theorem zlX {x:RS} (hg:¬ (rfI x).2.2.2=false):rfI x=(0,zBR x):=by
 cases hw:x.2.2 with
 | true=>exact zhk hw
 | false =>
  cases hr:refI (x.1.drop x.2.1) with
  | none=>exact zcC hw hr
  | some y=>rw [zcD hw hr] at hg;exact absurd rfl hg
abbrev zx5:List (Nat×Ent):=[]
abbrev zzc:List (Nat×Ent):=zx5
abbrev zzd:List (Nat×Ent):=(1001004,.call ⟨80,[.o (.c (.p 900 0))],[.bx 900 79 [.h 0,.h 1,.h 2]],.t [],[.bx 900 79 [.h 3,.h 4,.h 5]]⟩)::zx5
theorem zaT {w0:World} (x:RS) (r:Int) (y:RS) (hr:(rfI x).1=r) (hs:(rfI x).2=y) (hx:okRS x) (hlen:x.1.length<9223372036854775808):BFun false (KN w0) Tryz.prog 50 [.o (.c (.p 0 0))] [(79,[.d (pS x.1),.d (pI (x.2.1:Int)),.d (pB x.2.2)])] (.o (.c (.d (pI r)))) [(79,[.d (pS y.1),.d (pI (y.2.1:Int)),.d (pB y.2.2)])]:=by
 let A1:List Pred→List Pred:=fun t=>pS x.1::pI (x.2.1:Int)::pB x.2.2::t
 have f1:LA (KN w0) A1:=fun t h=>⟨zc,zc,zc,h⟩
 have T1:LT (KN w0) Tryz.prog A1 zx5:=fun t=>trivial
 by_cases c3:(rfI x).2.2.2=false
 ·
  obtain ⟨o,a2,hO_rfA⟩:∃(o:Int) (a2:Nat),(rfI x).1=o∧(rfI x).2.2.1=a2:=⟨_,_,rfl,rfl⟩
  let A2:=fun t=>A1 (pI o::pI (a2:Int)::t)
  have f2:LA (KN w0) A2:=fun t h=>f1 _ ⟨zc,zc,h⟩
  have T2:LT (KN w0) Tryz.prog A2 zzc:=fun t=>T1 _
  have L_rfA:∀R:Frm,R.pm=⟨ntOf Tryz.prog 50,[900],[]⟩→zj (KN w0) Tryz.prog (FL (A2 []) []) R rfA_S (lp Tryz.prog 50 0):=fun R hR=>zvH x  o a2 rfl rfl rfl rfl rfl R hR hx hlen c3 hO_rfA
  have r0:r=o:=by
   first | (rw [← hr,← hO_rfA.1];done) | (obtain ⟨hw,h1⟩:=zlY c3;rw [← hs,← hO_rfA.2];refine Prod.ext h1 (Prod.ext rfl ?_);rw [c3,hw])
  have r1:y=(x.1,((a2:Int):Int).toNat,x.2.2):=by
   first | (rw [← hr,← hO_rfA.1];done) | (obtain ⟨hw,h1⟩:=zlY c3;rw [← hs,← hO_rfA.2];refine Prod.ext h1 (Prod.ext rfl ?_);rw [c3,hw])
  rw [r0,r1];exact con_b (pan:=false) (zN (F:=FL (A2 []) []) (C:=zzc) (k:=⟨50,[.o (.c (.p 900 0))],[.bx 900 79 [.h 0,.h 1,.h 2]],yh 3,[.bx 900 79 [.h 0,.h 4,.h 2]]⟩) ⟨[rfA_S],[],0⟩ [] 0 (zg (f2 [] trivial)) (T2 []) mixed trivial (fun R hR p hp s hs=>by
   have hl:zD (zR Tryz.prog 50)=[(3,lp Tryz.prog 50 0)]:=by kernel_rfl
   rw [hl] at hp
   simp only [List.mem_cons,List.not_mem_nil,or_false] at hp
   rcases hp with rfl
   ·have e:s=rfA_S:=(Option.some.inj hs).symm
    subst e;exact L_rfA R hR) (by kernel_rfl))
 ·
  obtain ⟨v1,e1⟩:=LX (zBR x)
  let A3:=fun t=>A1 (pS v1.1::pI (v1.2.1:Int)::pB v1.2.2::t)
  have f3:LA (KN w0) A3:=fun t h=>f1 _ ⟨zc,zc,zc,h⟩
  have T3:LT (KN w0) Tryz.prog A3 zzd:=fun t=>⟨b_con (pan:=false) (zds x v1 e1),T1 _⟩
  have L_rfB:∀R:Frm,R.pm=⟨ntOf Tryz.prog 50,[900],[]⟩→zj (KN w0) Tryz.prog (FL (A3 []) []) R rfB_S (lp Tryz.prog 50 0):=fun R hR=>zvL x   rfl rfl rfl R hR hx hlen c3
  have r0:r=(0:Int):=by
   have hz:=zlX c3
   first | (rw [← hr,hz];done) | (rw [← hs,hz,e1];done) | (rw [← hs,hz,← e1])
  have r1:y=v1:=by
   have hz:=zlX c3
   first | (rw [← hr,hz];done) | (rw [← hs,hz,e1];done) | (rw [← hs,hz,← e1])
  rw [r0,r1];exact con_b (pan:=false) (zN (F:=FL (A3 []) []) (C:=zzd) (k:=⟨50,[.o (.c (.p 900 0))],[.bx 900 79 [.h 0,.h 1,.h 2]],.o (.c (.k (.int .i64 0))),[.bx 900 79 [.h 3,.h 4,.h 5]]⟩) ⟨[rfB_S],[],0⟩ [] 0 (zg (f3 [] trivial)) (T3 []) mixed trivial (fun R hR p hp s hs=>by
   have hl:zD (zR Tryz.prog 50)=[(3,lp Tryz.prog 50 0)]:=by kernel_rfl
   rw [hl] at hp
   simp only [List.mem_cons,List.not_mem_nil,or_false] at hp
   rcases hp with rfl
   ·have e:s=rfB_S:=(Option.some.inj hs).symm
    subst e;exact L_rfB R hR) (by kernel_rfl))
end Go.Proofs.YtjcegdldgjphiaaGreatDoor
namespace Go.Proofs.YtjcegdldgjphiaaGreatDoor
open Go.RowKit Go.Shelf
def OkR (x:RS):Prop:=okRS x∧x.1.length<9223372036854775808
theorem zaQ {x:RS} (h:OkR x):OkR (rfI x).2:=by
 obtain ⟨_,h2,h3⟩:=zbh x h.1
 exact ⟨h2,by rw [h3];exact h.2⟩
theorem zcV (x:RS) (h:okRS x):(rfC x).2.1=x.1:=by
 obtain ⟨_,_,h3⟩:=zbh x h
 unfold rfC
 split
 ·exact h3
 ·exact h3
theorem zbo {x:RS} (h:OkR x):OkR (rfC x).2:=by
 obtain ⟨_,h2⟩:=zf8 x h.1
 exact ⟨h2,by rw [zcV x h.1];exact h.2⟩
theorem zkF (x:RS) (h:okRS x):(rfT x).2.1=x.1:=by
 unfold rfT
 split
 ·exact zcV x h
 ·exact zcV x h
theorem zo2 {x:RS} (h:OkR x):OkR (rfT x).2:=by
 obtain ⟨_,h2⟩:=zf9 x h.1
 exact ⟨h2,by rw [zkF x h.1];exact h.2⟩
theorem zkG (x:RS) (h:okRS x):(rfV x).2.1=x.1:=by
 obtain ⟨_,h2,h3⟩:=zbh x h
 obtain ⟨_,h4,h5⟩:=zbh _ h2
 obtain ⟨_,h6,h7⟩:=zbh _ h4
 unfold rfV
 split
 ·exact h7.trans (h5.trans h3)
 ·exact h7.trans (h5.trans h3)
theorem zdP {x:RS} (h:OkR x):OkR (rfV x).2:=by
 obtain ⟨_,h2⟩:=zga x h.1
 exact ⟨h2,by rw [zkG x h.1];exact h.2⟩
theorem ztS {x:RS} (h:OkR x):OkR (rfP x).2:=zaQ (zdP h)
theorem zcU {x:RS} (h:OkR x) (hb:(rfC x).2.2.2=false):0≤(rfC x).1∧((rfC x).2.2.1:Int)+(rfC x).1≤(rfC x).2.1.length:=by
 have h1:=(zf8 x h.1).1
 have h2:=zcI (rst x)
 have h3:=zaR (rst x)
 have h4:=(zf8 x h.1).2
 rw [← h1] at h2 h3
 simp only at h2 h3
 rw [zbi hb] at h2
 have h5:(rfC x).1.toNat≤((rfC x).2.1.drop (rfC x).2.2.1).length:=h2
 rw [List.length_drop] at h5
 unfold okRS at h4
 exact ⟨h3,by omega⟩
abbrev zx3:List (Nat×Ent):=(1000002,.call ⟨50,[.o (.c (.p 900 0))],[.bx 900 79 [.h 0,.h 1,.h 2]],yh 3,[.bx 900 79 [.h 4,.h 5,.h 6]]⟩)::(1000005,.bin .lss 3 (yh 3) (LF (.k (.int .i64 0))) (yh 7))::[]
abbrev zy9:List (Nat×Ent):=(10007,.fb 7 true)::(1000013,.call ⟨80,[.o (.c (.p 900 0))],[.bx 900 79 [.h 4,.h 5,.h 6]],.t [],[.bx 900 79 [.h 8,.h 9,.h 10]]⟩)::zx3
abbrev zx4:List (Nat×Ent):=(10007,.fb 7 false)::(1000009,.call ⟨22,[.o (.c (.p 900 0))],[.bx 900 79 [.h 4,.h 5,.h 6]],yh 8,[.bx 900 79 [.h 4,.h 5,.h 6]]⟩)::(1000010,.bin .gtr 3 (yh 3) (yh 8) (yh 9))::zx3
abbrev zza:List (Nat×Ent):=(10009,.fb 9 true)::(1000013,.call ⟨80,[.o (.c (.p 900 0))],[.bx 900 79 [.h 4,.h 5,.h 6]],.t [],[.bx 900 79 [.h 10,.h 11,.h 12]]⟩)::zx4
abbrev zzb:List (Nat×Ent):=(10009,.fb 9 false)::zx4
theorem zdY {w0:World} (x:RS) (r:Int) (y:RS) (hr:(rfC x).1=r) (hs:(rfC x).2=y) (hx:OkR x):BFun false (KN w0) Tryz.prog 82 [.o (.c (.p 0 0))] [(79,[.d (pS x.1),.d (pI (x.2.1:Int)),.d (pB x.2.2)])] (.o (.c (.d (pI r)))) [(79,[.d (pS y.1),.d (pI (y.2.1:Int)),.d (pB y.2.2)])]:=by
 obtain ⟨v1,e1⟩:=LX ((rfI x).1)
 obtain ⟨v2,e2⟩:=LX ((rfI x).2)
 have s3:okRS x:=by exact (hx:OkR _).1
 have s4:x.1.length<9223372036854775808:=by exact (hx:OkR _).2
 obtain ⟨v5,e5⟩:=LX (decide (v1<(0:Int)))
 let A1:List Pred→List Pred:=fun t=>pS x.1::pI (x.2.1:Int)::pB x.2.2::pI v1::pS v2.1::pI (v2.2.1:Int)::pB v2.2.2::pB v5::t
 have f1:LA (KN w0) A1:=fun t h=>⟨zc,zc,zc,zc,zc,zc,zc,zc,h⟩
 have T1:LT (KN w0) Tryz.prog A1 zx3:=fun t=>⟨b_con (pan:=false) (zaT x v1 v2 e1 e2 s3 s4),e_bin (za rfl) ze (za rfl) (r_cmp (LO e5)),trivial⟩
 cases h6:v5 with
 | true =>
  obtain ⟨v7,e7⟩:=LX (zBR v2)
  let A2:=fun t=>A1 (pS v7.1::pI (v7.2.1:Int)::pB v7.2.2::t)
  have f2:LA (KN w0) A2:=fun t h=>f1 _ ⟨zc,zc,zc,h⟩
  have T2:LT (KN w0) Tryz.prog A2 zy9:=fun t=>⟨e_fbv h6,b_con (pan:=false) (zds v2 v7 e7),T1 _⟩
  have r0:r=(0:Int):=by
   have dh6:=LD e5 h6
   have hC:rfC x=(0,zBR v2):=by
    unfold rfC
    rw [e1,e2,if_pos (by omega)]
   first | (rw [← hr,hC];done) | (rw [← hs,hC];done) | simp_all
  have r1:y=v7:=by
   have dh6:=LD e5 h6
   have hC:rfC x=(0,zBR v2):=by
    unfold rfC
    rw [e1,e2,if_pos (by omega)]
   first | (rw [← hr,hC];done) | (rw [← hs,hC];done) | simp_all
  rw [r0,r1];exact con_b (pan:=false) (zr (F:=FL (A2 []) []) (C:=zy9) (k:=⟨82,[.o (.c (.p 900 0))],[.bx 900 79 [.h 0,.h 1,.h 2]],.o (.c (.k (.int .i64 0))),[.bx 900 79 [.h 8,.h 9,.h 10]]⟩) 0 (zg (f2 [] trivial)) (T2 []) mixed (by kernel_rfl))
 | false =>
  obtain ⟨v7,e7⟩:=LX ((rleft v2:Int))
  have s8:okRS v2:=by exact ((by rw [← e2];exact (zaQ hx)):OkR _).1
  have s9:v2.1.length<9223372036854775808:=by exact ((by rw [← e2];exact (zaQ hx)):OkR _).2
  obtain ⟨v10,e10⟩:=LX (decide (v1 > v7))
  let A3:=fun t=>A1 (pI v7::pB v10::t)
  have f3:LA (KN w0) A3:=fun t h=>f1 _ ⟨zc,zc,h⟩
  have T3:LT (KN w0) Tryz.prog A3 zx4:=fun t=>⟨e_fbv h6,b_con (pan:=false) (za9 v2 v7 e7 s8 s9),e_bin (za rfl) (za rfl) (za rfl) (r_cmp (LO e10)),T1 _⟩
  cases h11:v10 with
  | true =>
   obtain ⟨v12,e12⟩:=LX (zBR v2)
   let A4:=fun t=>A3 (pS v12.1::pI (v12.2.1:Int)::pB v12.2.2::t)
   have f4:LA (KN w0) A4:=fun t h=>f3 _ ⟨zc,zc,zc,h⟩
   have T4:LT (KN w0) Tryz.prog A4 zza:=fun t=>⟨e_fbv h11,b_con (pan:=false) (zds v2 v12 e12),T3 _⟩
   have r0:r=(0:Int):=by
    have dh6:=LE e5 h6
    have dh11:=LD e10 h11
    have hC:rfC x=(0,zBR v2):=by
     unfold rfC
     rw [e1,e2,if_pos (by omega)]
    first | (rw [← hr,hC];done) | (rw [← hs,hC];done) | simp_all
   have r1:y=v12:=by
    have dh6:=LE e5 h6
    have dh11:=LD e10 h11
    have hC:rfC x=(0,zBR v2):=by
     unfold rfC
     rw [e1,e2,if_pos (by omega)]
    first | (rw [← hr,hC];done) | (rw [← hs,hC];done) | simp_all
   rw [r0,r1];exact con_b (pan:=false) (zr (F:=FL (A4 []) []) (C:=zza) (k:=⟨82,[.o (.c (.p 900 0))],[.bx 900 79 [.h 0,.h 1,.h 2]],.o (.c (.k (.int .i64 0))),[.bx 900 79 [.h 10,.h 11,.h 12]]⟩) 0 (zg (f4 [] trivial)) (T4 []) mixed (by kernel_rfl))
  | false =>
   have T5:LT (KN w0) Tryz.prog A3 zzb:=fun t=>⟨e_fbv h11,T3 _⟩
   have r0:r=v1:=by
    have dh6:=LE e5 h6
    have dh11:=LE e10 h11
    have hC:rfC x=(v1,v2):=by
     unfold rfC
     rw [e1,e2,if_neg (by omega)]
     exact Prod.ext e1 e2
    first | (rw [← hr,hC];done) | (rw [← hs,hC];done) | simp_all
   have r1:y=v2:=by
    have dh6:=LE e5 h6
    have dh11:=LE e10 h11
    have hC:rfC x=(v1,v2):=by
     unfold rfC
     rw [e1,e2,if_neg (by omega)]
     exact Prod.ext e1 e2
    first | (rw [← hr,hC];done) | (rw [← hs,hC];done) | simp_all
   rw [r0,r1];exact con_b (pan:=false) (zr (F:=FL (A3 []) []) (C:=zzb) (k:=⟨82,[.o (.c (.p 900 0))],[.bx 900 79 [.h 0,.h 1,.h 2]],yh 3,[.bx 900 79 [.h 4,.h 5,.h 6]]⟩) 0 (zg (f3 [] trivial)) (T5 []) mixed (by kernel_rfl))
abbrev zxG:List (Nat×Ent):=(1000002,.call ⟨82,[.o (.c (.p 900 0))],[.bx 900 79 [.h 0,.h 1,.h 2]],yh 3,[.bx 900 79 [.h 4,.h 5,.h 6]]⟩)::(1000005,.call ⟨24,[.o (.c (.p 900 0))],[.bx 900 79 [.h 4,.h 5,.h 6]],yh 7,[.bx 900 79 [.h 4,.h 5,.h 6]]⟩)::[]
abbrev zyQ:List (Nat×Ent):=(10007,.fb 7 true)::zxG
abbrev zyR:List (Nat×Ent):=(10007,.fb 7 false)::(1000019,.bin .add 3 (yh 5) (yh 3) (yh 8))::(1000020,.op (.sc 9 true true false) [yh 4,yh 5,yh 8] [] (yh 9))::(1000028,.bin .add 3 (yh 5) (yh 3) (yh 10))::zxG
theorem zet {w0:World} (x:RS) (r:(List UInt8)) (y:RS) (hr:(rfT x).1=r) (hs:(rfT x).2=y) (hx:OkR x):BFun false (KN w0) Tryz.prog 52 [.o (.c (.p 0 0))] [(79,[.d (pS x.1),.d (pI (x.2.1:Int)),.d (pB x.2.2)])] (.o (.c (.d (pS r)))) [(79,[.d (pS y.1),.d (pI (y.2.1:Int)),.d (pB y.2.2)])]:=by
 obtain ⟨v1,e1⟩:=LX ((rfC x).1)
 obtain ⟨v2,e2⟩:=LX ((rfC x).2)
 have s3:OkR x:=by exact hx
 obtain ⟨v4,e4⟩:=LX (v2.2.2)
 let A1:List Pred→List Pred:=fun t=>pS x.1::pI (x.2.1:Int)::pB x.2.2::pI v1::pS v2.1::pI (v2.2.1:Int)::pB v2.2.2::pB v4::t
 have f1:LA (KN w0) A1:=fun t h=>⟨zc,zc,zc,zc,zc,zc,zc,zc,h⟩
 have T1:LT (KN w0) Tryz.prog A1 zxG:=fun t=>⟨b_con (pan:=false) (zdY x v1 v2 e1 e2 s3),b_con (pan:=false) (zay v2 v4 e4),trivial⟩
 cases h5:v4 with
 | true =>
  have T2:LT (KN w0) Tryz.prog A1 zyQ:=fun t=>⟨e_fbv h5,T1 _⟩
  have r0:r=[]:=by
   have hz:(rfC x).2.2.2=true:=(by rw [e2];exact e4.trans h5)
   have hT:rfT x=([],(rfC x).2):=(by unfold rfT;rw [if_pos hz])
   first | (rw [← hr,hT];done) | (rw [← hs,hT,e2];done)
  have r1:y=v2:=by
   have hz:(rfC x).2.2.2=true:=(by rw [e2];exact e4.trans h5)
   have hT:rfT x=([],(rfC x).2):=(by unfold rfT;rw [if_pos hz])
   first | (rw [← hr,hT];done) | (rw [← hs,hT,e2];done)
  rw [r0,r1];exact con_b (pan:=false) (zr (F:=FL (A1 []) []) (C:=zyQ) (k:=⟨52,[.o (.c (.p 900 0))],[.bx 900 79 [.h 0,.h 1,.h 2]],.o (.c (.k (.string ⟨#[]⟩))),[.bx 900 79 [.h 4,.h 5,.h 6]]⟩) 0 (zg (f1 [] trivial)) (T2 []) mixed (by kernel_rfl))
 | false =>
  obtain ⟨v6,e6⟩:=LX (IntKind.i64.wrap ((v2.2.1:Int)+v1))
  obtain ⟨n7,s8⟩:∃(n7:Nat),(v2.2.1:Int)=(n7:Int):=by (have hz:v2.2.2=false:=(e4.trans h5);have hf:=zcU hx (by rw [e2];exact hz);rw [e1,e2] at hf;have hk:OkR v2:=(by rw [← e2];exact zbo hx);have hk2:=hk.2;exact ⟨_,rfl⟩)
  obtain ⟨n9,s10⟩:∃(n9:Nat),v6=(n9:Int):=by (have hz:v2.2.2=false:=(e4.trans h5);have hf:=zcU hx (by rw [e2];exact hz);rw [e1,e2] at hf;have hk:OkR v2:=(by rw [← e2];exact zbo hx);have hk2:=hk.2;exact ⟨(v2.2.1+v1.toNat),by rw [← e6,wri (by omega)];omega⟩)
  obtain ⟨v11,e11⟩:=LX (((v2.1:List UInt8).drop n7).take (n9 - n7))
  have s12:n7≤n9:=by (have hz:v2.2.2=false:=(e4.trans h5);have hf:=zcU hx (by rw [e2];exact hz);rw [e1,e2] at hf;have hk:OkR v2:=(by rw [← e2];exact zbo hx);have hk2:=hk.2;have t0:=s8;have t1:=s10;(try rw [← e6,wri (by omega)] at t1);omega)
  have s13:n9≤(v2.1:List UInt8).length:=by (have hz:v2.2.2=false:=(e4.trans h5);have hf:=zcU hx (by rw [e2];exact hz);rw [e1,e2] at hf;have hk:OkR v2:=(by rw [← e2];exact zbo hx);have hk2:=hk.2;have t0:=s8;have t1:=s10;(try rw [← e6,wri (by omega)] at t1);omega)
  obtain ⟨v14,e14⟩:=LX (IntKind.i64.wrap ((v2.2.1:Int)+v1))
  let A3:=fun t=>A1 (pI v6::pS v11::pI v14::t)
  have f3:LA (KN w0) A3:=fun t h=>f1 _ ⟨zc,zc,zc,h⟩
  have T3:LT (KN w0) Tryz.prog A3 zyR:=fun t=>⟨e_fbv h5,e_bin (za rfl) (za rfl) (za rfl) (r_ar (LO e6)),e_op3 (za rfl) (za rfl) (za rfl) (za rfl) (fun W=>by rw [← e11];exact r_sl (by kernel_rfl) s8 s10 s12 s13 W),e_bin (za rfl) (za rfl) (za rfl) (r_ar (LO e14)),T1 _⟩
  have r0:r=v11:=by
   have hz:v2.2.2=false:=e4.trans h5
   have hf:=zcU hx (by rw [e2];exact hz)
   rw [e1,e2] at hf
   have hk:OkR v2:=(by rw [← e2];exact zbo hx)
   have hk2:=hk.2
   have t1:=s8
   have t2:=s10
   rw [← e6,wri (by omega)] at t2
   have hT:rfT x=((v2.1.drop v2.2.1).take v1.toNat,(v2.1,v2.2.1+v1.toNat,false)):=(by unfold rfT;rw [e2,hz,e1,if_neg (by decide)])
   have n1:n7=v2.2.1:=(by omega)
   have n2:n9 - n7=v1.toNat:=(by omega)
   have n3:(v14:Int).toNat=v2.2.1+v1.toNat:=(by rw [← e14,wri (by omega)];omega)
   first | (rw [← hr,hT,← e11,n2,n1];done) | (rw [← hs,hT,n3,hz];done)
  have r1:y=(v2.1,(v14:Int).toNat,v2.2.2):=by
   have hz:v2.2.2=false:=e4.trans h5
   have hf:=zcU hx (by rw [e2];exact hz)
   rw [e1,e2] at hf
   have hk:OkR v2:=(by rw [← e2];exact zbo hx)
   have hk2:=hk.2
   have t1:=s8
   have t2:=s10
   rw [← e6,wri (by omega)] at t2
   have hT:rfT x=((v2.1.drop v2.2.1).take v1.toNat,(v2.1,v2.2.1+v1.toNat,false)):=(by unfold rfT;rw [e2,hz,e1,if_neg (by decide)])
   have n1:n7=v2.2.1:=(by omega)
   have n2:n9 - n7=v1.toNat:=(by omega)
   have n3:(v14:Int).toNat=v2.2.1+v1.toNat:=(by rw [← e14,wri (by omega)];omega)
   first | (rw [← hr,hT,← e11,n2,n1];done) | (rw [← hs,hT,n3,hz];done)
  rw [r0,r1];dsimp only;rw [Int.toNat_of_nonneg (by have hf:=zcU hx (by rw [e2];exact e4.trans h5);rw [e1,e2] at hf;have hk:OkR v2:=(by rw [← e2];exact zbo hx);have hk2:=hk.2;rw [← e14,wri (by omega)];omega)];exact con_b (pan:=false) (zr (F:=FL (A3 []) []) (C:=zyR) (k:=⟨52,[.o (.c (.p 900 0))],[.bx 900 79 [.h 0,.h 1,.h 2]],yh 9,[.bx 900 79 [.h 4,.h 10,.h 6]]⟩) 0 (zg (f3 [] trivial)) (T3 []) mixed (by kernel_rfl))
abbrev zx6:List (Nat×Ent):=(1000002,.call ⟨50,[.o (.c (.p 900 0))],[.bx 900 79 [.h 0,.h 1,.h 2]],yh 3,[.bx 900 79 [.h 4,.h 5,.h 6]]⟩)::(1000005,.call ⟨50,[.o (.c (.p 900 0))],[.bx 900 79 [.h 4,.h 5,.h 6]],yh 7,[.bx 900 79 [.h 8,.h 9,.h 10]]⟩)::(1000008,.call ⟨50,[.o (.c (.p 900 0))],[.bx 900 79 [.h 8,.h 9,.h 10]],yh 11,[.bx 900 79 [.h 12,.h 13,.h 14]]⟩)::(1000011,.call ⟨24,[.o (.c (.p 900 0))],[.bx 900 79 [.h 12,.h 13,.h 14]],yh 15,[.bx 900 79 [.h 12,.h 13,.h 14]]⟩)::[]
abbrev zze:List (Nat×Ent):=(10015,.fb 15 true)::zx6
abbrev zzf:List (Nat×Ent):=(10015,.fb 15 false)::zx6
theorem zql {w0:World} (x:RS) (r:V3) (y:RS) (hr:(rfV x).1=r) (hs:(rfV x).2=y) (hx:OkR x):BFun false (KN w0) Tryz.prog 55 [.o (.c (.p 0 0))] [(79,[.d (pS x.1),.d (pI (x.2.1:Int)),.d (pB x.2.2)])] (.o (.g [.d (pI r.1),.d (pI r.2.1),.d (pI r.2.2)])) [(79,[.d (pS y.1),.d (pI (y.2.1:Int)),.d (pB y.2.2)])]:=by
 obtain ⟨v1,e1⟩:=LX ((rfI x).1)
 obtain ⟨v2,e2⟩:=LX ((rfI x).2)
 have s3:okRS x:=by exact (hx:OkR _).1
 have s4:x.1.length<9223372036854775808:=by exact (hx:OkR _).2
 obtain ⟨v5,e5⟩:=LX ((rfI v2).1)
 obtain ⟨v6,e6⟩:=LX ((rfI v2).2)
 have s7:okRS v2:=by exact ((by rw [← e2];exact (zaQ hx)):OkR _).1
 have s8:v2.1.length<9223372036854775808:=by exact ((by rw [← e2];exact (zaQ hx)):OkR _).2
 obtain ⟨v9,e9⟩:=LX ((rfI v6).1)
 obtain ⟨v10,e10⟩:=LX ((rfI v6).2)
 have s11:okRS v6:=by exact ((by rw [← e6];exact (zaQ (by rw [← e2];exact (zaQ hx)))):OkR _).1
 have s12:v6.1.length<9223372036854775808:=by exact ((by rw [← e6];exact (zaQ (by rw [← e2];exact (zaQ hx)))):OkR _).2
 obtain ⟨v13,e13⟩:=LX (v10.2.2)
 let A1:List Pred→List Pred:=fun t=>pS x.1::pI (x.2.1:Int)::pB x.2.2::pI v1::pS v2.1::pI (v2.2.1:Int)::pB v2.2.2::pI v5::pS v6.1::pI (v6.2.1:Int)::pB v6.2.2::pI v9::pS v10.1::pI (v10.2.1:Int)::pB v10.2.2::pB v13::t
 have f1:LA (KN w0) A1:=fun t h=>⟨zc,zc,zc,zc,zc,zc,zc,zc,zc,zc,zc,zc,zc,zc,zc,zc,h⟩
 have T1:LT (KN w0) Tryz.prog A1 zx6:=fun t=>⟨b_con (pan:=false) (zaT x v1 v2 e1 e2 s3 s4),b_con (pan:=false) (zaT v2 v5 v6 e5 e6 s7 s8),b_con (pan:=false) (zaT v6 v9 v10 e9 e10 s11 s12),b_con (pan:=false) (zay v10 v13 e13),trivial⟩
 cases h14:v13 with
 | true =>
  have T2:LT (KN w0) Tryz.prog A1 zze:=fun t=>⟨e_fbv h14,T1 _⟩
  have r0:r=((0:Int),(0:Int),(0:Int)):=by
   have hz:v10.2.2=true:=e13.trans h14
   have hV:rfV x=((0,0,0),v10):=(by unfold rfV;rw [e2,e6,e10,if_pos hz])
   first | (rw [← hr,hV];done) | (rw [← hs,hV];done)
  have r1:y=v10:=by
   have hz:v10.2.2=true:=e13.trans h14
   have hV:rfV x=((0,0,0),v10):=(by unfold rfV;rw [e2,e6,e10,if_pos hz])
   first | (rw [← hr,hV];done) | (rw [← hs,hV];done)
  rw [r0,r1];exact con_b (pan:=false) (zr (F:=FL (A1 []) []) (C:=zze) (k:=⟨55,[.o (.c (.p 900 0))],[.bx 900 79 [.h 0,.h 1,.h 2]],.o (.g [.k (.int .i64 0),.k (.int .i64 0),.k (.int .i64 0)]),[.bx 900 79 [.h 12,.h 13,.h 14]]⟩) 0 (zg (f1 [] trivial)) (T2 []) mixed (by kernel_rfl))
 | false =>
  have T3:LT (KN w0) Tryz.prog A1 zzf:=fun t=>⟨e_fbv h14,T1 _⟩
  have r0:r=(v1,v5,v9):=by
   have hz:v10.2.2=false:=e13.trans h14
   have hV:rfV x=((v1,v5,v9),v10):=(by unfold rfV;rw [e2,e6,e10,e1,e5,e9,if_neg (by rw [hz];decide)])
   first | (rw [← hr,hV];done) | (rw [← hs,hV];done)
  have r1:y=v10:=by
   have hz:v10.2.2=false:=e13.trans h14
   have hV:rfV x=((v1,v5,v9),v10):=(by unfold rfV;rw [e2,e6,e10,e1,e5,e9,if_neg (by rw [hz];decide)])
   first | (rw [← hr,hV];done) | (rw [← hs,hV];done)
  rw [r0,r1];exact con_b (pan:=false) (zr (F:=FL (A1 []) []) (C:=zzf) (k:=⟨55,[.o (.c (.p 900 0))],[.bx 900 79 [.h 0,.h 1,.h 2]],.o (.g [.h 3,.h 7,.h 11]),[.bx 900 79 [.h 12,.h 13,.h 14]]⟩) 0 (zg (f1 [] trivial)) (T3 []) mixed (by kernel_rfl))
end Go.Proofs.YtjcegdldgjphiaaGreatDoor
namespace Go.Proofs.YtjcegdldgjphiaaGreatDoor
open Go.RowKit Go.Shelf
theorem zcj {x:RS} (h:okRS x):0≤(rfC x).1∧(rfC x).1≤x.1.length:=by
 have h1:=(zf8 x h).1
 have h2:=zcI (rst x)
 have h3:=zaR (rst x)
 rw [← h1] at h2 h3
 simp only at h2 h3
 have h4:leftN (rst (rfC x).2)≤x.1.length:=by
  rw [← zcV x h]
  cases hw:(rfC x).2.2.2 with
  | true=>rw [zbp hw];exact Nat.zero_le _
  | false =>
   rw [zbi hw]
   show ((rfC x).2.1.drop _).length≤_
   rw [List.length_drop];omega
 exact ⟨h3,by omega⟩
section
variable {α:Type} {rf:RS→α×RS}
theorem zpz {s:RS} (h:s.2.2=true):∀(n:Nat) (o:List α),rfN rf n o s=(o,s)
 | 0,_=>rfl
 | n+1,o=>by rw [rfN,if_pos h]
theorem zl1 {s:RS} (h:s.2.2=false) (n:Nat) (o:List α):rfN rf (n+1) o s=rfN rf n (o++[(rf s).1]) (rf s).2:=by rw [rfN,if_neg (by rw [h];decide)]
theorem zpA (hs:∀x,OkR x→OkR (rf x).2∧(rf x).2.1=x.1):∀(n:Nat) (o:List α) (x:RS),OkR x→OkR (rfN rf n o x).2∧(rfN rf n o x).2.1=x.1
 | 0,_,_,h=>⟨h,rfl⟩
 | n+1,o,x,h=>by
  rw [rfN]
  split
  ·exact ⟨h,rfl⟩
  ·obtain ⟨h1,h2⟩:=hs x h
   obtain ⟨h3,h4⟩:=zpA hs n (o++[(rf x).1]) (rf x).2 h1
   exact ⟨h3,h4.trans h2⟩
theorem zpy (hs:∀x,OkR x→OkR (rf x).2∧(rf x).2.1=x.1) {x:RS} (h:OkR x):OkR (rfL rf x).2∧(rfL rf x).2.1=x.1:=by
 obtain ⟨h1,h2⟩:=zpA hs (rfC x).1.toNat [] (rfC x).2 (zbo h)
 unfold rfL
 split
 ·exact ⟨h1,h2.trans (zcV x h.1)⟩
 ·exact ⟨h1,h2.trans (zcV x h.1)⟩
end
theorem zlZ (x:RS) (h:OkR x):OkR (rfI x).2∧(rfI x).2.1=x.1:=⟨zaQ h,(zbh x h.1).2.2⟩
theorem zrF (x:RS) (h:OkR x):OkR (rfP x).2∧(rfP x).2.1=x.1:=⟨ztS h,((zbh _ (zdP h).1).2.2).trans (zkG x h.1)⟩
def rfR (x:RS):RR×RS:=if (rfT x).2.2.2=true then (rq none,zBR (rfT x).2) else if okP (rfT x).1=true then (parR (rfT x).1,(rfT x).2) else (rq none,zBR (rfT x).2)
theorem zl3 (x:RS) (hx:okRS x):((rfR x).1,rst (rfR x).2)=rdR (rst x)∧okRS (rfR x).2:=by
 obtain ⟨h1,h2⟩:=zf9 x hx
 unfold rfR rdR
 rw [← h1]
 simp only
 cases hw:(rfT x).2.2.2 with
 | true =>
  rw [if_pos rfl,zbp hw]
  exact ⟨rfl,h2⟩
 | false =>
  rw [if_neg (by decide)]
  split
  ·rename_i ho
   simp only [zbi hw,ho,if_true]
   exact ⟨trivial,h2⟩
  ·rename_i ho
   simp only [zbi hw,ho,if_false]
   exact ⟨rfl,h2⟩
theorem zug {x:RS} (h:okRS x):(rfT x).1.length≤x.1.length:=by
 unfold rfT
 split
 ·exact Nat.zero_le _
 ·rw [← zcV x h]
  show (((rfC x).2.1.drop _).take _).length≤_
  rw [List.length_take,List.length_drop];omega
theorem zrG (x:RS) (h:OkR x):OkR (rfR x).2∧(rfR x).2.1=x.1:=by
 have h1:=zkF x h.1
 have h2:=zo2 h
 unfold rfR
 split
 ·exact ⟨h2,h1⟩
 ·split
  ·exact ⟨h2,h1⟩
  ·exact ⟨h2,h1⟩
structure w_rfints_l_T where
 k:Int
 s:RS
 o:(List Int)
def zU:List Atom:=[.sl 0 (.o (.c (.p 900 0))),.sl 2 (.o (.c (.k (.slice none 0 0)))),.sl 3 (.o (.c (.gr 901))),.sl 4 (yh 3),.sl 5 (yh 7),.sl 6 (.o (.c (.p 900 0))),.sl 7 (yh 3),.bx 900 79 [.h 8,.h 9,.h 10],.gl 901 3 1 1]
def qm:LoopS:=⟨4,[.sl 0 (.o (.c (.p 900 0))),.sl 2 (.o (.c (.k (.slice none 0 0)))),.sl 3 (.o (.c (.gr 901))),.sl 4 (yh 3),.sl 5 (.o (.c (.k (.int .i64 0)))),.sl 6 (.o (.c (.p 900 0))),.sl 7 (yh 3),.bx 900 79 [.h 4,.h 5,.h 6],.gl 901 3 1 0],(.x 0),[.sl 0 (.o (.c (.p 900 0))),.sl 2 (.o (.c (.k (.slice none 0 0)))),.sl 3 (.o (.c (.gr 901))),.sl 4 (yh 3),.sl 6 (.o (.c (.p 900 0))),.sl 7 (yh 3),.bx 900 79 [.h 7,.h 8,.h 9],.gl 901 3 1 1]⟩
abbrev zwO:List (Nat×Ent):=(1005002,.bin .lss 3 (yh 7) (yh 3) (yh 11))::[]
abbrev zwP:List (Nat×Ent):=(10011,.fb 11 true)::(1005005,.call ⟨24,[.o (.c (.p 900 0))],[.bx 900 79 [.h 8,.h 9,.h 10]],yh 12,[.bx 900 79 [.h 8,.h 9,.h 10]]⟩)::(1005006,.un .not (yh 12) (yh 13))::zwO
abbrev zxP:List (Nat×Ent):=(10013,.fb 13 true)::(1005010,.call ⟨50,[.o (.c (.p 900 0))],[.bx 900 79 [.h 8,.h 9,.h 10]],yh 14,[.bx 900 79 [.h 15,.h 16,.h 17]]⟩)::(1005012,.app 3 1 901 1 2 (.o (.c (.s 5011 0 1 1))) [.bx 5011 3 [.h 14]] false)::(1005015,.bin .add 3 (yh 7) (LF (.k (.int .i64 1))) (yh 18))::zwP
abbrev zxQ:List (Nat×Ent):=(10013,.fb 13 false)::zwP
abbrev zxR:List (Nat×Ent):=(10011,.fb 11 false)::zwO
theorem zdr {w0:World} (x:RS) (v1:Int) (v2:RS) (y2:RS) (o2:(List Int)) {F:Fact} (u3:F.c 3=pI v1) (u4:F.c 4=pS v2.1) (u5:F.c 5=pI (v2.2.1:Int)) (u6:F.c 6=pB v2.2.2) (u7:F.c 7=pS y2.1) (u8:F.c 8=pI (y2.2.1:Int)) (u9:F.c 9=pB y2.2.2) (ug0:F.g 0=pG cI ([]:List Int)) (ug1:F.g 1=pG cI o2) (R:Frm) (hR:R.pm=⟨ntOf Tryz.prog 53,[900],[]⟩) (hx:OkR x) (hv:(rfC x).2=v2) (hn0:0≤v1) (hb:v1≤1000000) (hO:y2=(rfN rfI v1.toNat [] v2).2∧o2=(rfN rfI v1.toNat [] v2).1):zj (KN w0) Tryz.prog F R qm (lp Tryz.prog 53 0):=by
 refine zG (T:=w_rfints_l_T) (fun t=>FL [pS x.1,pI (x.2.1:Int),pB x.2.2,pI v1,pS v2.1,pI (v2.2.1:Int),pB v2.2.2,pI t.k,pS t.s.1,pI (t.s.2.1:Int),pB t.s.2.2] [pG cI ([]:List Int),pG cI t.o]) (fun ⟨k,s,o⟩=>k=(o.length:Int)∧o.length≤v1.toNat∧OkR s∧rfN rfI v1.toNat [] v2=rfN rfI (v1.toNat - o.length) o s) (fun ⟨k,s,o⟩=>v1.toNat - o.length) { k:=(0:Int),s:=v2,o:=([]:List Int) } zU ⟨rfl,Nat.zero_le _,by rw [← hv];exact zbo hx,rfl⟩ (LZ ⟨z_c yy,z_c yy,z_c yy,z_c (LU u3),z_c yy,z_c yy,z_c (LU u3),z_b ⟨LU u4,LU u5,LU u6,trivial⟩,z_gq ug0 rfl,trivial⟩) rfl fun t hJ=>?_
 obtain ⟨k,s,o⟩:=t
 dsimp only at hJ
 obtain ⟨hk,hle,hs,hJ⟩:=hJ
 obtain ⟨v501,e501⟩:=LX (decide (k<v1))
 let A1:List Pred→List Pred:=fun t=>pS x.1::pI (x.2.1:Int)::pB x.2.2::pI v1::pS v2.1::pI (v2.2.1:Int)::pB v2.2.2::pI k::pS s.1::pI (s.2.1:Int)::pB s.2.2::pB v501::t
 have f1:LA (KN w0) A1:=fun t h=>⟨zc,zc,zc,zc,zc,zc,zc,zc,zc,zc,zc,zc,h⟩
 let G1:List LPred→List LPred:=fun t=>pG cI ([]:List Int)::pG cI o::t
 have g1:LG (KN w0) G1:=fun t h=>⟨(zy zl),(zy zl),h⟩
 have T1:LH (KN w0) Tryz.prog A1 G1 zwO:=fun t u=>⟨e_bin (za rfl) (za rfl) (za rfl) (r_cmp (LO e501)),trivial⟩
 cases h502:v501 with
 | true =>
  obtain ⟨v503,e503⟩:=LX (s.2.2)
  obtain ⟨v504,e504⟩:=LX (!v503)
  let A2:=fun t=>A1 (pB v503::pB v504::t)
  have f2:LA (KN w0) A2:=fun t h=>f1 _ ⟨zc,zc,h⟩
  have T2:LH (KN w0) Tryz.prog A2 G1 zwP:=fun t u=>⟨e_fbv h502,b_con (pan:=false) (zay s v503 e503),e_un (za rfl) (za rfl) (fun W=>by rw [← e504];exact r_not W),T1 _ _⟩
  cases h505:v504 with
  | true =>
   obtain ⟨v506,e506⟩:=LX ((rfI s).1)
   obtain ⟨v507,e507⟩:=LX ((rfI s).2)
   have s508:okRS s:=by exact (hs:OkR _).1
   have s509:s.1.length<9223372036854775808:=by exact (hs:OkR _).2
   obtain ⟨v510,e510⟩:=LX (o++[v506])
   have s511:(o.length+1)*1≤1099511627776:=by (have d:=LD e501 h502;omega)
   obtain ⟨v512,e512⟩:=LX (IntKind.i64.wrap (k+(1:Int)))
   let A3:=fun t=>A2 (pI v506::pS v507.1::pI (v507.2.1:Int)::pB v507.2.2::pI v512::t)
   have f3:LA (KN w0) A3:=fun t h=>f2 _ ⟨zc,zc,zc,zc,zc,h⟩
   let G3:=fun t=>G1 (pG cI v510::t)
   have g3:LG (KN w0) G3:=fun t h=>g1 _ ⟨(zy zl),h⟩
   have T3:LH (KN w0) Tryz.prog A3 G3 zxP:=fun t u=>⟨e_fbv h505,b_con (pan:=false) (zaT s v506 v507 e506 e507 s508 s509),zfR (c:=cI) (x:=v506) zl (fun _=>rfl) (.inr ⟨rfl,rfl⟩) (by rw [e510];rfl) rfl (fun _ _ _ h=>h) rfl s511,e_bin (za rfl) ze (za rfl) (r_ar (LO e512)),T2 _ _⟩
   refine .inr ⟨⟨v512,v507,v510⟩,?_,?_,goes (x:=.n) (y:=.n) (Fb:=FL (A3 []) (G3 [])) (stb:=zU) (tl:=[.sl 0 (.o (.c (.p 900 0))),.sl 2 (.o (.c (.k (.slice none 0 0)))),.sl 3 (.o (.c (.gr 901))),.sl 4 (yh 3),.sl 5 (yh 18),.sl 6 (.o (.c (.p 900 0))),.sl 7 (yh 3),.bx 900 79 [.h 15,.h 16,.h 17],.gl 901 3 1 2]) (C:=zxP) (H:=.no) 5000 (LZ ⟨z_c yy,z_c yy,z_c yy,z_c yy,z_c yy,z_c yy,z_c yy,z_b ⟨yy,yy,yy,trivial⟩,z_gl (fun _ _ _ h=>h),trivial⟩) (zg (f3 [] trivial) (g3 [] trivial)) (T3 [] []) mixed hR trivial (fun _ _ _ hs=>by cases hs) (by kernel_rfl) rfl (LZ ⟨z_c yy,z_c yy,z_c yy,z_c yy,z_c (fun β v W h=>(zd rfl β v W).2 h),z_c yy,z_c yy,z_b ⟨fun β v W h=>(zd rfl β v W).2 h,fun β v W h=>(zd rfl β v W).2 h,fun β v W h=>(zd rfl β v W).2 h,trivial⟩,z_gq rfl rfl,trivial⟩)⟩
   all_goals (have d:=LD e501 h502;have hz:s.2.2=false:=(by rw [e503];cases v503<;>simp_all);have hl:v510.length=o.length+1:=(by rw [← e510,List.length_append];rfl);have x4:v512=((o.length+1:Nat):Int):=(by rw [← e512,hk,wri (by omega)];omega))
   ·show v1.toNat - v510.length<v1.toNat - o.length
    omega
   ·refine ⟨by rw [x4,hl],by omega,by rw [← e507];exact zaQ hs,?_⟩
    show _=rfN rfI (v1.toNat - v510.length) v510 v507
    rw [hJ,show v1.toNat - o.length=(v1.toNat - v510.length)+1 by omega,zl1 hz]
    rw [e506,e507,e510]
  | false =>
   have T4:LH (KN w0) Tryz.prog A2 G1 zxQ:=fun t u=>⟨e_fbv h505,T2 _ _⟩
   have hq:((s)=y2)∧((o)=o2)∧True:=by
    refine ⟨?_,?_,trivial⟩
    all_goals (have hz:s.2.2=true:=(by rw [e503];cases v503<;>simp_all);rw [hJ,zpz hz] at hO)
    ·rw [hO.1]
    ·rw [hO.2]
   obtain ⟨q0,q1,-⟩:=hq
   exact .inl (goes (x:=(.x 0)) (y:=(.x 0)) (Fb:=FL (A2 []) (G1 [])) (stb:=zU) (tl:=[.sl 0 (.o (.c (.p 900 0))),.sl 2 (.o (.c (.k (.slice none 0 0)))),.sl 3 (.o (.c (.gr 901))),.sl 4 (yh 3),.sl 6 (.o (.c (.p 900 0))),.sl 7 (yh 3),.bx 900 79 [.h 8,.h 9,.h 10],.gl 901 3 1 1]) (C:=zxQ) (H:=.no) 5000 (LZ ⟨z_c yy,z_c yy,z_c yy,z_c yy,z_c yy,z_c yy,z_c yy,z_b ⟨yy,yy,yy,trivial⟩,z_gl (fun _ _ _ h=>h),trivial⟩) (zg (f2 [] trivial) (g1 [] trivial)) (T4 [] []) mixed hR trivial (fun _ _ _ hs=>by cases hs) (by kernel_rfl) rfl (LZ ⟨z_c yy,z_c yy,z_c yy,z_c (LV u3),z_c yy,z_c (LV u3),z_b ⟨fun β v W h=>(zd u7 β v W).2 (by rw [← q0];exact h),fun β v W h=>(zd u8 β v W).2 (by rw [← q0];exact h),fun β v W h=>(zd u9 β v W).2 (by rw [← q0];exact h),trivial⟩,z_gq rfl (by rw [ug1,← q1];rfl),trivial⟩))
 | false =>
  have T5:LH (KN w0) Tryz.prog A1 G1 zxR:=fun t u=>⟨e_fbv h502,T1 _ _⟩
  have hq:((s)=y2)∧((o)=o2)∧True:=by
   refine ⟨?_,?_,trivial⟩
   all_goals (have d:=LE e501 h502;rw [hJ,show v1.toNat - o.length=0 by omega,rfN] at hO)
   ·rw [hO.1]
   ·rw [hO.2]
  obtain ⟨q0,q1,-⟩:=hq
  exact .inl (goes (x:=(.x 0)) (y:=(.x 0)) (Fb:=FL (A1 []) (G1 [])) (stb:=zU) (tl:=[.sl 0 (.o (.c (.p 900 0))),.sl 2 (.o (.c (.k (.slice none 0 0)))),.sl 3 (.o (.c (.gr 901))),.sl 4 (yh 3),.sl 6 (.o (.c (.p 900 0))),.sl 7 (yh 3),.bx 900 79 [.h 8,.h 9,.h 10],.gl 901 3 1 1]) (C:=zxR) (H:=.no) 5000 (LZ ⟨z_c yy,z_c yy,z_c yy,z_c yy,z_c yy,z_c yy,z_c yy,z_b ⟨yy,yy,yy,trivial⟩,z_gl (fun _ _ _ h=>h),trivial⟩) (zg (f1 [] trivial) (g1 [] trivial)) (T5 [] []) mixed hR trivial (fun _ _ _ hs=>by cases hs) (by kernel_rfl) rfl (LZ ⟨z_c yy,z_c yy,z_c yy,z_c (LV u3),z_c yy,z_c (LV u3),z_b ⟨fun β v W h=>(zd u7 β v W).2 (by rw [← q0];exact h),fun β v W h=>(zd u8 β v W).2 (by rw [← q0];exact h),fun β v W h=>(zd u9 β v W).2 (by rw [← q0];exact h),trivial⟩,z_gq rfl (by rw [ug1,← q1];rfl),trivial⟩))
abbrev zxF:List (Nat×Ent):=(1000003,.call ⟨82,[.o (.c (.p 900 0))],[.bx 900 79 [.h 0,.h 1,.h 2]],yh 3,[.bx 900 79 [.h 4,.h 5,.h 6]]⟩)::(1001007,.call ⟨24,[.o (.c (.p 900 0))],[.bx 900 79 [.h 7,.h 8,.h 9]],yh 10,[.bx 900 79 [.h 7,.h 8,.h 9]]⟩)::[]
abbrev zyO:List (Nat×Ent):=(10010,.fb 10 true)::zxF
abbrev zyP:List (Nat×Ent):=(10010,.fb 10 false)::zxF
theorem zsk {w0:World} (x:RS) (r:List Int) (y:RS) (hr:(rfL rfI x).1=r) (hs:(rfL rfI x).2=y) (hx:OkR x) (hle:x.1.length≤1000000):BFun false (KN w0) Tryz.prog 53 [.o (.c (.p 0 0))] [(79,[.d (pS x.1),.d (pI (x.2.1:Int)),.d (pB x.2.2)])] (.o (.c (.d (pLs cI r)))) [(79,[.d (pS y.1),.d (pI (y.2.1:Int)),.d (pB y.2.2)])]:=by
 obtain ⟨v1,e1⟩:=LX ((rfC x).1)
 obtain ⟨v2,e2⟩:=LX ((rfC x).2)
 have s3:OkR x:=by exact hx
 obtain ⟨y2,o2,hO_w_rfints_l⟩:∃(y2:RS) (o2:(List Int)),y2=(rfN rfI v1.toNat [] v2).2∧o2=(rfN rfI v1.toNat [] v2).1:=⟨_,_,rfl,rfl⟩
 obtain ⟨v4,e4⟩:=LX (y2.2.2)
 let A1:List Pred→List Pred:=fun t=>pS x.1::pI (x.2.1:Int)::pB x.2.2::pI v1::pS v2.1::pI (v2.2.1:Int)::pB v2.2.2::pS y2.1::pI (y2.2.1:Int)::pB y2.2.2::pB v4::t
 have f1:LA (KN w0) A1:=fun t h=>⟨zc,zc,zc,zc,zc,zc,zc,zc,zc,zc,zc,h⟩
 let G1:List LPred→List LPred:=fun t=>pG cI ([]:List Int)::pG cI o2::t
 have g1:LG (KN w0) G1:=fun t h=>⟨(zy zl),(zy zl),h⟩
 have T1:LH (KN w0) Tryz.prog A1 G1 zxF:=fun t u=>⟨b_con (pan:=false) (zdY x v1 v2 e1 e2 s3),b_con (pan:=false) (zay y2 v4 e4),trivial⟩
 cases h5:v4 with
 | true =>
  have T2:LH (KN w0) Tryz.prog A1 G1 zyO:=fun t u=>⟨e_fbv h5,T1 _ _⟩
  have L_w_rfints_l:∀R:Frm,R.pm=⟨ntOf Tryz.prog 53,[900],[]⟩→zj (KN w0) Tryz.prog (FL (A1 []) (G1 [])) R qm (lp Tryz.prog 53 0):=fun R hR=>zdr x v1 v2  y2 o2 rfl rfl rfl rfl rfl rfl rfl rfl rfl R hR hx e2 (by rw [← e1];exact (zcj hx.1).1) (by have h0:=(zcj hx.1).2;rw [e1] at h0;omega) hO_w_rfints_l
  have r0:r=([]:List Int):=by
   have hb:y2.2.2=true:=e4.trans h5
   have hL:rfL rfI x=([],y2):=by
    unfold rfL
    rw [e1,e2,← hO_w_rfints_l.1,if_pos hb]
   first | (rw [← hr,hL];done) | (rw [← hs,hL];done)
  have r1:y=y2:=by
   have hb:y2.2.2=true:=e4.trans h5
   have hL:rfL rfI x=([],y2):=by
    unfold rfL
    rw [e1,e2,← hO_w_rfints_l.1,if_pos hb]
   first | (rw [← hr,hL];done) | (rw [← hs,hL];done)
  rw [r0,r1];exact BFun.fin (r:=.o (.c (.d (pV (.slice none 0 0))))) (con_b (pan:=false) (zN (F:=FL (A1 []) (G1 [])) (C:=zyO) (k:=⟨53,[.o (.c (.p 900 0))],[.bx 900 79 [.h 0,.h 1,.h 2]],.o (.c (.k (.slice none 0 0))),[.bx 900 79 [.h 7,.h 8,.h 9]]⟩) ⟨[qm],[⟨1,[.sl 3 (.o (.c (.k (.slice none 0 0)))),.gn 901],[.sl 3 (.o (.c (.gr 901))),.gl 901 3 1 0],[]⟩],0⟩ [901] 0 (zg (f1 [] trivial) (g1 [] trivial)) (T2 [] []) mixed ⟨zaW (c:=cI) rfl,trivial⟩ (fun R hR p hp s hs=>by
   have hl:zD (zR Tryz.prog 53)=[(4,lp Tryz.prog 53 0)]:=by kernel_rfl
   rw [hl] at hp
   simp only [List.mem_cons,List.not_mem_nil,or_false] at hp
   rcases hp with rfl
   ·have e:s=qm:=(Option.some.inj hs).symm
    subst e;exact L_w_rfints_l R hR) (by kernel_rfl))) (fun _ _ _ _ h=>zij h)
 | false =>
  let A3:=fun t=>A1 (pLs cI o2::t)
  have f3:LA (KN w0) A3:=fun t h=>f1 _ ⟨(zi zl),h⟩
  have T3:LH (KN w0) Tryz.prog A3 G1 zyP:=fun t u=>⟨e_fbv h5,T1 _ _⟩
  have L_w_rfints_l:∀R:Frm,R.pm=⟨ntOf Tryz.prog 53,[900],[]⟩→zj (KN w0) Tryz.prog (FL (A3 []) (G1 [])) R qm (lp Tryz.prog 53 0):=fun R hR=>zdr x v1 v2  y2 o2 rfl rfl rfl rfl rfl rfl rfl rfl rfl R hR hx e2 (by rw [← e1];exact (zcj hx.1).1) (by have h0:=(zcj hx.1).2;rw [e1] at h0;omega) hO_w_rfints_l
  have r0:r=o2:=by
   have hb:y2.2.2=false:=e4.trans h5
   have hL:rfL rfI x=(o2,y2):=by
    unfold rfL
    rw [e1,e2,← hO_w_rfints_l.1,if_neg (by rw [hb];decide)]
    exact Prod.ext hO_w_rfints_l.2.symm hO_w_rfints_l.1.symm
   first | (rw [← hr,hL];done) | (rw [← hs,hL];done)
  have r1:y=y2:=by
   have hb:y2.2.2=false:=e4.trans h5
   have hL:rfL rfI x=(o2,y2):=by
    unfold rfL
    rw [e1,e2,← hO_w_rfints_l.1,if_neg (by rw [hb];decide)]
    exact Prod.ext hO_w_rfints_l.2.symm hO_w_rfints_l.1.symm
   first | (rw [← hr,hL];done) | (rw [← hs,hL];done)
  rw [r0,r1];exact con_b (pan:=false) (zN (F:=FL (A3 []) (G1 [])) (C:=zyP) (k:=⟨53,[.o (.c (.p 900 0))],[.bx 900 79 [.h 0,.h 1,.h 2]],yh 11,[.bx 900 79 [.h 7,.h 8,.h 9]]⟩) ⟨[qm],[⟨1,[.sl 3 (.o (.c (.k (.slice none 0 0)))),.gn 901],[.sl 3 (.o (.c (.gr 901))),.gl 901 3 1 0],[]⟩,⟨9,.gl 901 3 1 1::[2].map (fun s=>.sl s (.o (.c (.gr 901)))),[2].map (fun s=>.sl s (yh 11)),[901]⟩],0⟩ [901] 0 (zg (f3 [] trivial) (g1 [] trivial)) (T3 [] []) mixed ⟨zaW (c:=cI) rfl,zbw (c:=cI) (fun _=>rfl) (by decide) zl rfl rfl,trivial⟩ (fun R hR p hp s hs=>by
   have hl:zD (zR Tryz.prog 53)=[(4,lp Tryz.prog 53 0)]:=by kernel_rfl
   rw [hl] at hp
   simp only [List.mem_cons,List.not_mem_nil,or_false] at hp
   rcases hp with rfl
   ·have e:s=qm:=(Option.some.inj hs).symm
    subst e;exact L_w_rfints_l R hR) (by kernel_rfl))
structure w_rfcell_l_T where
 k:Int
 s:RS
 o:(List Pl)
def zT:List Atom:=[.sl 0 (.o (.c (.p 900 0))),.sl 2 (.o (.c (.k (.slice none 0 0)))),.sl 3 (.o (.c (.gr 901))),.sl 4 (yh 3),.sl 5 (yh 7),.sl 7 (.o (.c (.p 900 0))),.sl 8 (yh 3),.bx 900 79 [.h 8,.h 9,.h 10],.gl 901 69 4 1]
def ql:LoopS:=⟨4,[.sl 0 (.o (.c (.p 900 0))),.sl 2 (.o (.c (.k (.slice none 0 0)))),.sl 3 (.o (.c (.gr 901))),.sl 4 (yh 3),.sl 5 (.o (.c (.k (.int .i64 0)))),.sl 7 (.o (.c (.p 900 0))),.sl 8 (yh 3),.bx 900 79 [.h 4,.h 5,.h 6],.gl 901 69 4 0],(.x 0),[.sl 0 (.o (.c (.p 900 0))),.sl 2 (.o (.c (.k (.slice none 0 0)))),.sl 3 (.o (.c (.gr 901))),.sl 4 (yh 3),.sl 7 (.o (.c (.p 900 0))),.sl 8 (yh 3),.bx 900 79 [.h 7,.h 8,.h 9],.gl 901 69 4 1]⟩
abbrev zwM:List (Nat×Ent):=(1005002,.bin .lss 3 (yh 7) (yh 3) (yh 11))::[]
abbrev zwN:List (Nat×Ent):=(10011,.fb 11 true)::(1005005,.call ⟨24,[.o (.c (.p 900 0))],[.bx 900 79 [.h 8,.h 9,.h 10]],yh 12,[.bx 900 79 [.h 8,.h 9,.h 10]]⟩)::(1005006,.un .not (yh 12) (yh 13))::zwM
abbrev zxM:List (Nat×Ent):=(10013,.fb 13 true)::(1005009,.call ⟨55,[.o (.c (.p 900 0))],[.bx 900 79 [.h 8,.h 9,.h 10]],.o (.g [.h 14,.h 15,.h 16]),[.bx 900 79 [.h 17,.h 18,.h 19]]⟩)::(1005015,.call ⟨50,[.o (.c (.p 900 0))],[.bx 900 79 [.h 17,.h 18,.h 19]],yh 20,[.bx 900 79 [.h 21,.h 22,.h 23]]⟩)::(1005018,.app 69 4 901 1 2 (.o (.c (.s 5017 0 1 1))) [.bx 5017 69 [.h 14,.h 15,.h 16,.h 20]] false)::(1005021,.bin .add 3 (yh 7) (LF (.k (.int .i64 1))) (yh 24))::zwN
abbrev zxN:List (Nat×Ent):=(10013,.fb 13 false)::zwN
abbrev zxO:List (Nat×Ent):=(10011,.fb 11 false)::zwM
theorem zdq {w0:World} (x:RS) (v1:Int) (v2:RS) (y2:RS) (o2:(List Pl)) {F:Fact} (u3:F.c 3=pI v1) (u4:F.c 4=pS v2.1) (u5:F.c 5=pI (v2.2.1:Int)) (u6:F.c 6=pB v2.2.2) (u7:F.c 7=pS y2.1) (u8:F.c 8=pI (y2.2.1:Int)) (u9:F.c 9=pB y2.2.2) (ug0:F.g 0=pG cPl ([]:List Pl)) (ug1:F.g 1=pG cPl o2) (R:Frm) (hR:R.pm=⟨ntOf Tryz.prog 58,[900],[]⟩) (hx:OkR x) (hv:(rfC x).2=v2) (hn0:0≤v1) (hb:v1≤1000000) (hO:y2=(rfN rfP v1.toNat [] v2).2∧o2=(rfN rfP v1.toNat [] v2).1):zj (KN w0) Tryz.prog F R ql (lp Tryz.prog 58 0):=by
 refine zG (T:=w_rfcell_l_T) (fun t=>FL [pS x.1,pI (x.2.1:Int),pB x.2.2,pI v1,pS v2.1,pI (v2.2.1:Int),pB v2.2.2,pI t.k,pS t.s.1,pI (t.s.2.1:Int),pB t.s.2.2] [pG cPl ([]:List Pl),pG cPl t.o]) (fun ⟨k,s,o⟩=>k=(o.length:Int)∧o.length≤v1.toNat∧OkR s∧rfN rfP v1.toNat [] v2=rfN rfP (v1.toNat - o.length) o s) (fun ⟨k,s,o⟩=>v1.toNat - o.length) { k:=(0:Int),s:=v2,o:=([]:List Pl) } zT ⟨rfl,Nat.zero_le _,by rw [← hv];exact zbo hx,rfl⟩ (LZ ⟨z_c yy,z_c yy,z_c yy,z_c (LU u3),z_c yy,z_c yy,z_c (LU u3),z_b ⟨LU u4,LU u5,LU u6,trivial⟩,z_gq ug0 rfl,trivial⟩) rfl fun t hJ=>?_
 obtain ⟨k,s,o⟩:=t
 dsimp only at hJ
 obtain ⟨hk,hle,hs,hJ⟩:=hJ
 obtain ⟨v501,e501⟩:=LX (decide (k<v1))
 let A1:List Pred→List Pred:=fun t=>pS x.1::pI (x.2.1:Int)::pB x.2.2::pI v1::pS v2.1::pI (v2.2.1:Int)::pB v2.2.2::pI k::pS s.1::pI (s.2.1:Int)::pB s.2.2::pB v501::t
 have f1:LA (KN w0) A1:=fun t h=>⟨zc,zc,zc,zc,zc,zc,zc,zc,zc,zc,zc,zc,h⟩
 let G1:List LPred→List LPred:=fun t=>pG cPl ([]:List Pl)::pG cPl o::t
 have g1:LG (KN w0) G1:=fun t h=>⟨(zy zo),(zy zo),h⟩
 have T1:LH (KN w0) Tryz.prog A1 G1 zwM:=fun t u=>⟨e_bin (za rfl) (za rfl) (za rfl) (r_cmp (LO e501)),trivial⟩
 cases h502:v501 with
 | true =>
  obtain ⟨v503,e503⟩:=LX (s.2.2)
  obtain ⟨v504,e504⟩:=LX (!v503)
  let A2:=fun t=>A1 (pB v503::pB v504::t)
  have f2:LA (KN w0) A2:=fun t h=>f1 _ ⟨zc,zc,h⟩
  have T2:LH (KN w0) Tryz.prog A2 G1 zwN:=fun t u=>⟨e_fbv h502,b_con (pan:=false) (zay s v503 e503),e_un (za rfl) (za rfl) (fun W=>by rw [← e504];exact r_not W),T1 _ _⟩
  cases h505:v504 with
  | true =>
   obtain ⟨v506,e506⟩:=LX ((rfV s).1)
   obtain ⟨v507,e507⟩:=LX ((rfV s).2)
   have s508:OkR s:=by exact hs
   obtain ⟨v509,e509⟩:=LX ((rfI v507).1)
   obtain ⟨v510,e510⟩:=LX ((rfI v507).2)
   have s511:okRS v507:=by exact ((by rw [← e507];exact (zdP hs)):OkR _).1
   have s512:v507.1.length<9223372036854775808:=by exact ((by rw [← e507];exact (zdP hs)):OkR _).2
   obtain ⟨v513,e513⟩:=LX (o++[(v506,v509)])
   have s514:(o.length+1)*4≤1099511627776:=by (have d:=LD e501 h502;omega)
   obtain ⟨v515,e515⟩:=LX (IntKind.i64.wrap (k+(1:Int)))
   let A3:=fun t=>A2 (pI v506.1::pI v506.2.1::pI v506.2.2::pS v507.1::pI (v507.2.1:Int)::pB v507.2.2::pI v509::pS v510.1::pI (v510.2.1:Int)::pB v510.2.2::pI v515::t)
   have f3:LA (KN w0) A3:=fun t h=>f2 _ ⟨zc,zc,zc,zc,zc,zc,zc,zc,zc,zc,zc,h⟩
   let G3:=fun t=>G1 (pG cPl v513::t)
   have g3:LG (KN w0) G3:=fun t h=>g1 _ ⟨(zy zo),h⟩
   have T3:LH (KN w0) Tryz.prog A3 G3 zxM:=fun t u=>⟨e_fbv h505,b_con (pan:=false) (zql s v506 v507 e506 e507 s508),b_con (pan:=false) (zaT v507 v509 v510 e509 e510 s511 s512),zfR (c:=cPl) (x:=(v506,v509)) zo (fun _=>rfl) (.inr ⟨rfl,rfl⟩) (by rw [e513];rfl) rfl (fun _ _ _ h=>h) rfl s514,e_bin (za rfl) ze (za rfl) (r_ar (LO e515)),T2 _ _⟩
   refine .inr ⟨⟨v515,v510,v513⟩,?_,?_,goes (x:=.n) (y:=.n) (Fb:=FL (A3 []) (G3 [])) (stb:=zT) (tl:=[.sl 0 (.o (.c (.p 900 0))),.sl 2 (.o (.c (.k (.slice none 0 0)))),.sl 3 (.o (.c (.gr 901))),.sl 4 (yh 3),.sl 5 (yh 24),.sl 7 (.o (.c (.p 900 0))),.sl 8 (yh 3),.bx 900 79 [.h 21,.h 22,.h 23],.gl 901 69 4 2]) (C:=zxM) (H:=.no) 5000 (LZ ⟨z_c yy,z_c yy,z_c yy,z_c yy,z_c yy,z_c yy,z_c yy,z_b ⟨yy,yy,yy,trivial⟩,z_gl (fun _ _ _ h=>h),trivial⟩) (zg (f3 [] trivial) (g3 [] trivial)) (T3 [] []) mixed hR trivial (fun _ _ _ hs=>by cases hs) (by kernel_rfl) rfl (LZ ⟨z_c yy,z_c yy,z_c yy,z_c yy,z_c (fun β v W h=>(zd rfl β v W).2 h),z_c yy,z_c yy,z_b ⟨fun β v W h=>(zd rfl β v W).2 h,fun β v W h=>(zd rfl β v W).2 h,fun β v W h=>(zd rfl β v W).2 h,trivial⟩,z_gq rfl rfl,trivial⟩)⟩
   all_goals (have d:=LD e501 h502;have hz:s.2.2=false:=(by rw [e503];cases v503<;>simp_all);have hl:v513.length=o.length+1:=(by rw [← e513,List.length_append];rfl);have x4:v515=((o.length+1:Nat):Int):=(by rw [← e515,hk,wri (by omega)];omega))
   ·show v1.toNat - v513.length<v1.toNat - o.length
    omega
   ·refine ⟨by rw [x4,hl],by omega,by rw [← e510,← e507];exact zaQ (zdP hs),?_⟩
    show _=rfN rfP (v1.toNat - v513.length) v513 v510
    rw [hJ,show v1.toNat - o.length=(v1.toNat - v513.length)+1 by omega,zl1 hz]
    show rfN rfP _ (o++[((rfV s).1,(rfI (rfV s).2).1)]) (rfI (rfV s).2).2=_
    rw [e506,e507,e509,e510,e513]
  | false =>
   have T4:LH (KN w0) Tryz.prog A2 G1 zxN:=fun t u=>⟨e_fbv h505,T2 _ _⟩
   have hq:((s)=y2)∧((o)=o2)∧True:=by
    refine ⟨?_,?_,trivial⟩
    all_goals (have hz:s.2.2=true:=(by rw [e503];cases v503<;>simp_all);rw [hJ,zpz hz] at hO)
    ·rw [hO.1]
    ·rw [hO.2]
   obtain ⟨q0,q1,-⟩:=hq
   exact .inl (goes (x:=(.x 0)) (y:=(.x 0)) (Fb:=FL (A2 []) (G1 [])) (stb:=zT) (tl:=[.sl 0 (.o (.c (.p 900 0))),.sl 2 (.o (.c (.k (.slice none 0 0)))),.sl 3 (.o (.c (.gr 901))),.sl 4 (yh 3),.sl 7 (.o (.c (.p 900 0))),.sl 8 (yh 3),.bx 900 79 [.h 8,.h 9,.h 10],.gl 901 69 4 1]) (C:=zxN) (H:=.no) 5000 (LZ ⟨z_c yy,z_c yy,z_c yy,z_c yy,z_c yy,z_c yy,z_c yy,z_b ⟨yy,yy,yy,trivial⟩,z_gl (fun _ _ _ h=>h),trivial⟩) (zg (f2 [] trivial) (g1 [] trivial)) (T4 [] []) mixed hR trivial (fun _ _ _ hs=>by cases hs) (by kernel_rfl) rfl (LZ ⟨z_c yy,z_c yy,z_c yy,z_c (LV u3),z_c yy,z_c (LV u3),z_b ⟨fun β v W h=>(zd u7 β v W).2 (by rw [← q0];exact h),fun β v W h=>(zd u8 β v W).2 (by rw [← q0];exact h),fun β v W h=>(zd u9 β v W).2 (by rw [← q0];exact h),trivial⟩,z_gq rfl (by rw [ug1,← q1];rfl),trivial⟩))
 | false =>
  have T5:LH (KN w0) Tryz.prog A1 G1 zxO:=fun t u=>⟨e_fbv h502,T1 _ _⟩
  have hq:((s)=y2)∧((o)=o2)∧True:=by
   refine ⟨?_,?_,trivial⟩
   all_goals (have d:=LE e501 h502;rw [hJ,show v1.toNat - o.length=0 by omega,rfN] at hO)
   ·rw [hO.1]
   ·rw [hO.2]
  obtain ⟨q0,q1,-⟩:=hq
  exact .inl (goes (x:=(.x 0)) (y:=(.x 0)) (Fb:=FL (A1 []) (G1 [])) (stb:=zT) (tl:=[.sl 0 (.o (.c (.p 900 0))),.sl 2 (.o (.c (.k (.slice none 0 0)))),.sl 3 (.o (.c (.gr 901))),.sl 4 (yh 3),.sl 7 (.o (.c (.p 900 0))),.sl 8 (yh 3),.bx 900 79 [.h 8,.h 9,.h 10],.gl 901 69 4 1]) (C:=zxO) (H:=.no) 5000 (LZ ⟨z_c yy,z_c yy,z_c yy,z_c yy,z_c yy,z_c yy,z_c yy,z_b ⟨yy,yy,yy,trivial⟩,z_gl (fun _ _ _ h=>h),trivial⟩) (zg (f1 [] trivial) (g1 [] trivial)) (T5 [] []) mixed hR trivial (fun _ _ _ hs=>by cases hs) (by kernel_rfl) rfl (LZ ⟨z_c yy,z_c yy,z_c yy,z_c (LV u3),z_c yy,z_c (LV u3),z_b ⟨fun β v W h=>(zd u7 β v W).2 (by rw [← q0];exact h),fun β v W h=>(zd u8 β v W).2 (by rw [← q0];exact h),fun β v W h=>(zd u9 β v W).2 (by rw [← q0];exact h),trivial⟩,z_gq rfl (by rw [ug1,← q1];rfl),trivial⟩))
abbrev zxE:List (Nat×Ent):=(1000003,.call ⟨82,[.o (.c (.p 900 0))],[.bx 900 79 [.h 0,.h 1,.h 2]],yh 3,[.bx 900 79 [.h 4,.h 5,.h 6]]⟩)::(1001007,.call ⟨24,[.o (.c (.p 900 0))],[.bx 900 79 [.h 7,.h 8,.h 9]],yh 10,[.bx 900 79 [.h 7,.h 8,.h 9]]⟩)::[]
abbrev zyM:List (Nat×Ent):=(10010,.fb 10 true)::zxE
abbrev zyN:List (Nat×Ent):=(10010,.fb 10 false)::zxE
theorem zsj {w0:World} (x:RS) (r:List Pl) (y:RS) (hr:(rfL rfP x).1=r) (hs:(rfL rfP x).2=y) (hx:OkR x) (hle:x.1.length≤1000000):BFun false (KN w0) Tryz.prog 58 [.o (.c (.p 0 0))] [(79,[.d (pS x.1),.d (pI (x.2.1:Int)),.d (pB x.2.2)])] (.o (.c (.d (pLs cPl r)))) [(79,[.d (pS y.1),.d (pI (y.2.1:Int)),.d (pB y.2.2)])]:=by
 obtain ⟨v1,e1⟩:=LX ((rfC x).1)
 obtain ⟨v2,e2⟩:=LX ((rfC x).2)
 have s3:OkR x:=by exact hx
 obtain ⟨y2,o2,hO_w_rfcell_l⟩:∃(y2:RS) (o2:(List Pl)),y2=(rfN rfP v1.toNat [] v2).2∧o2=(rfN rfP v1.toNat [] v2).1:=⟨_,_,rfl,rfl⟩
 obtain ⟨v4,e4⟩:=LX (y2.2.2)
 let A1:List Pred→List Pred:=fun t=>pS x.1::pI (x.2.1:Int)::pB x.2.2::pI v1::pS v2.1::pI (v2.2.1:Int)::pB v2.2.2::pS y2.1::pI (y2.2.1:Int)::pB y2.2.2::pB v4::t
 have f1:LA (KN w0) A1:=fun t h=>⟨zc,zc,zc,zc,zc,zc,zc,zc,zc,zc,zc,h⟩
 let G1:List LPred→List LPred:=fun t=>pG cPl ([]:List Pl)::pG cPl o2::t
 have g1:LG (KN w0) G1:=fun t h=>⟨(zy zo),(zy zo),h⟩
 have T1:LH (KN w0) Tryz.prog A1 G1 zxE:=fun t u=>⟨b_con (pan:=false) (zdY x v1 v2 e1 e2 s3),b_con (pan:=false) (zay y2 v4 e4),trivial⟩
 cases h5:v4 with
 | true =>
  have T2:LH (KN w0) Tryz.prog A1 G1 zyM:=fun t u=>⟨e_fbv h5,T1 _ _⟩
  have L_w_rfcell_l:∀R:Frm,R.pm=⟨ntOf Tryz.prog 58,[900],[]⟩→zj (KN w0) Tryz.prog (FL (A1 []) (G1 [])) R ql (lp Tryz.prog 58 0):=fun R hR=>zdq x v1 v2  y2 o2 rfl rfl rfl rfl rfl rfl rfl rfl rfl R hR hx e2 (by rw [← e1];exact (zcj hx.1).1) (by have h0:=(zcj hx.1).2;rw [e1] at h0;omega) hO_w_rfcell_l
  have r0:r=([]:List Pl):=by
   have hb:y2.2.2=true:=e4.trans h5
   have hL:rfL rfP x=([],y2):=by
    unfold rfL
    rw [e1,e2,← hO_w_rfcell_l.1,if_pos hb]
   first | (rw [← hr,hL];done) | (rw [← hs,hL];done)
  have r1:y=y2:=by
   have hb:y2.2.2=true:=e4.trans h5
   have hL:rfL rfP x=([],y2):=by
    unfold rfL
    rw [e1,e2,← hO_w_rfcell_l.1,if_pos hb]
   first | (rw [← hr,hL];done) | (rw [← hs,hL];done)
  rw [r0,r1];exact BFun.fin (r:=.o (.c (.d (pV (.slice none 0 0))))) (con_b (pan:=false) (zN (F:=FL (A1 []) (G1 [])) (C:=zyM) (k:=⟨58,[.o (.c (.p 900 0))],[.bx 900 79 [.h 0,.h 1,.h 2]],.o (.c (.k (.slice none 0 0))),[.bx 900 79 [.h 7,.h 8,.h 9]]⟩) ⟨[ql],[⟨1,[.sl 3 (.o (.c (.k (.slice none 0 0)))),.gn 901],[.sl 3 (.o (.c (.gr 901))),.gl 901 69 4 0],[]⟩],0⟩ [901] 0 (zg (f1 [] trivial) (g1 [] trivial)) (T2 [] []) mixed ⟨zaW (c:=cPl) rfl,trivial⟩ (fun R hR p hp s hs=>by
   have hl:zD (zR Tryz.prog 58)=[(4,lp Tryz.prog 58 0)]:=by kernel_rfl
   rw [hl] at hp
   simp only [List.mem_cons,List.not_mem_nil,or_false] at hp
   rcases hp with rfl
   ·have e:s=ql:=(Option.some.inj hs).symm
    subst e;exact L_w_rfcell_l R hR) (by kernel_rfl))) (fun _ _ _ _ h=>zij h)
 | false =>
  let A3:=fun t=>A1 (pLs cPl o2::t)
  have f3:LA (KN w0) A3:=fun t h=>f1 _ ⟨(zi zo),h⟩
  have T3:LH (KN w0) Tryz.prog A3 G1 zyN:=fun t u=>⟨e_fbv h5,T1 _ _⟩
  have L_w_rfcell_l:∀R:Frm,R.pm=⟨ntOf Tryz.prog 58,[900],[]⟩→zj (KN w0) Tryz.prog (FL (A3 []) (G1 [])) R ql (lp Tryz.prog 58 0):=fun R hR=>zdq x v1 v2  y2 o2 rfl rfl rfl rfl rfl rfl rfl rfl rfl R hR hx e2 (by rw [← e1];exact (zcj hx.1).1) (by have h0:=(zcj hx.1).2;rw [e1] at h0;omega) hO_w_rfcell_l
  have r0:r=o2:=by
   have hb:y2.2.2=false:=e4.trans h5
   have hL:rfL rfP x=(o2,y2):=by
    unfold rfL
    rw [e1,e2,← hO_w_rfcell_l.1,if_neg (by rw [hb];decide)]
    exact Prod.ext hO_w_rfcell_l.2.symm hO_w_rfcell_l.1.symm
   first | (rw [← hr,hL];done) | (rw [← hs,hL];done)
  have r1:y=y2:=by
   have hb:y2.2.2=false:=e4.trans h5
   have hL:rfL rfP x=(o2,y2):=by
    unfold rfL
    rw [e1,e2,← hO_w_rfcell_l.1,if_neg (by rw [hb];decide)]
    exact Prod.ext hO_w_rfcell_l.2.symm hO_w_rfcell_l.1.symm
   first | (rw [← hr,hL];done) | (rw [← hs,hL];done)
  rw [r0,r1];exact con_b (pan:=false) (zN (F:=FL (A3 []) (G1 [])) (C:=zyN) (k:=⟨58,[.o (.c (.p 900 0))],[.bx 900 79 [.h 0,.h 1,.h 2]],yh 11,[.bx 900 79 [.h 7,.h 8,.h 9]]⟩) ⟨[ql],[⟨1,[.sl 3 (.o (.c (.k (.slice none 0 0)))),.gn 901],[.sl 3 (.o (.c (.gr 901))),.gl 901 69 4 0],[]⟩,⟨10,.gl 901 69 4 1::[2].map (fun s=>.sl s (.o (.c (.gr 901)))),[2].map (fun s=>.sl s (yh 11)),[901]⟩],0⟩ [901] 0 (zg (f3 [] trivial) (g1 [] trivial)) (T3 [] []) mixed ⟨zaW (c:=cPl) rfl,zbw (c:=cPl) (fun _=>rfl) (by decide) zo rfl rfl,trivial⟩ (fun R hR p hp s hs=>by
   have hl:zD (zR Tryz.prog 58)=[(4,lp Tryz.prog 58 0)]:=by kernel_rfl
   rw [hl] at hp
   simp only [List.mem_cons,List.not_mem_nil,or_false] at hp
   rcases hp with rfl
   ·have e:s=ql:=(Option.some.inj hs).symm
    subst e;exact L_w_rfcell_l R hR) (by kernel_rfl))
abbrev zxc:List (Nat×Ent):=(1000002,.call ⟨52,[.o (.c (.p 900 0))],[.bx 900 79 [.h 0,.h 1,.h 2]],yh 3,[.bx 900 79 [.h 4,.h 5,.h 6]]⟩)::(1000003,.call ⟨87,[yh 3],[],.t [.g [.h 7,.h 8,.h 9,.h 10],.c (.h 11)],[]⟩)::(1000011,.call ⟨24,[.o (.c (.p 900 0))],[.bx 900 79 [.h 4,.h 5,.h 6]],yh 12,[.bx 900 79 [.h 4,.h 5,.h 6]]⟩)::[]
abbrev zym:List (Nat×Ent):=(10012,.fb 12 true)::(1000017,.call ⟨80,[.o (.c (.p 900 0))],[.bx 900 79 [.h 4,.h 5,.h 6]],.t [],[.bx 900 79 [.h 13,.h 14,.h 15]]⟩)::zxc
abbrev zxd:List (Nat×Ent):=(10012,.fb 12 false)::(1000014,.un .not (yh 11) (yh 13))::zxc
abbrev zyn:List (Nat×Ent):=(10013,.fb 13 true)::(1000017,.call ⟨80,[.o (.c (.p 900 0))],[.bx 900 79 [.h 4,.h 5,.h 6]],.t [],[.bx 900 79 [.h 14,.h 15,.h 16]]⟩)::zxd
abbrev zyo:List (Nat×Ent):=(10013,.fb 13 false)::zxd
theorem zqk {w0:World} (x:RS) (r:RR) (y:RS) (hr:(rfR x).1=r) (hs:(rfR x).2=y) (hx:OkR x) (hle:x.1.length≤1000):BFun false (KN w0) Tryz.prog 61 [.o (.c (.p 0 0))] [(79,[.d (pS x.1),.d (pI (x.2.1:Int)),.d (pB x.2.2)])] (.o (.g [.d (pB r.1.1),.d (pD r.1.2),.d (pB r.2.1),.d (pD r.2.2)])) [(79,[.d (pS y.1),.d (pI (y.2.1:Int)),.d (pB y.2.2)])]:=by
 obtain ⟨v1,e1⟩:=LX ((rfT x).1)
 obtain ⟨v2,e2⟩:=LX ((rfT x).2)
 have s3:OkR x:=by exact hx
 obtain ⟨v4,e4⟩:=LX (parR v1)
 obtain ⟨v5,e5⟩:=LX (okP v1)
 have s6:(v1:List UInt8).length≤1000:=by (rw [← e1];exact Nat.le_trans (zug hx.1) hle)
 obtain ⟨v7,e7⟩:=LX (v2.2.2)
 let A1:List Pred→List Pred:=fun t=>pS x.1::pI (x.2.1:Int)::pB x.2.2::pS v1::pS v2.1::pI (v2.2.1:Int)::pB v2.2.2::pB v4.1.1::pD v4.1.2::pB v4.2.1::pD v4.2.2::pB v5::pB v7::t
 have f1:LA (KN w0) A1:=fun t h=>⟨zc,zc,zc,zc,zc,zc,zc,zc,zm,zc,zm,zc,zc,h⟩
 have T1:LT (KN w0) Tryz.prog A1 zxc:=fun t=>⟨b_con (pan:=false) (zet x v1 v2 e1 e2 s3),zh (zcP v1 v4 v5 e4 e5 s6),b_con (pan:=false) (zay v2 v7 e7),trivial⟩
 cases h8:v7 with
 | true =>
  obtain ⟨v9,e9⟩:=LX (zBR v2)
  let A2:=fun t=>A1 (pS v9.1::pI (v9.2.1:Int)::pB v9.2.2::t)
  have f2:LA (KN w0) A2:=fun t h=>f1 _ ⟨zc,zc,zc,h⟩
  have T2:LT (KN w0) Tryz.prog A2 zym:=fun t=>⟨e_fbv h8,b_con (pan:=false) (zds v2 v9 e9),T1 _⟩
  have r0:r=rq none:=by
   have hL:rfR x=(rq none,v9):=by
    unfold rfR
    rw [e2,if_pos (e7.trans h8),e9]
   first | (rw [← hr,hL];done) | (rw [← hs,hL];done)
  have r1:y=v9:=by
   have hL:rfR x=(rq none,v9):=by
    unfold rfR
    rw [e2,if_pos (e7.trans h8),e9]
   first | (rw [← hr,hL];done) | (rw [← hs,hL];done)
  rw [r0,r1];exact BFun.fin (r:=.o (.g [.d (pV (.bool false)),.d (pV (.slice none 0 0)),.d (pV (.bool false)),.d (pV (.slice none 0 0))])) (con_b (pan:=false) (zr (F:=FL (A2 []) []) (C:=zym) (k:=⟨61,[.o (.c (.p 900 0))],[.bx 900 79 [.h 0,.h 1,.h 2]],.o (.g [.k (.bool false),.k (.slice none 0 0),.k (.bool false),.k (.slice none 0 0)]),[.bx 900 79 [.h 13,.h 14,.h 15]]⟩) 0 (zg (f2 [] trivial)) (T2 []) mixed (by kernel_rfl))) (fun _ _ _ _ h=>zhP h)
 | false =>
  obtain ⟨v9,e9⟩:=LX (!v5)
  let A3:=fun t=>A1 (pB v9::t)
  have f3:LA (KN w0) A3:=fun t h=>f1 _ ⟨zc,h⟩
  have T3:LT (KN w0) Tryz.prog A3 zxd:=fun t=>⟨e_fbv h8,e_un (za rfl) (za rfl) (fun W=>by rw [← e9];exact r_not W),T1 _⟩
  cases h10:v9 with
  | true =>
   obtain ⟨v11,e11⟩:=LX (zBR v2)
   let A4:=fun t=>A3 (pS v11.1::pI (v11.2.1:Int)::pB v11.2.2::t)
   have f4:LA (KN w0) A4:=fun t h=>f3 _ ⟨zc,zc,zc,h⟩
   have T4:LT (KN w0) Tryz.prog A4 zyn:=fun t=>⟨e_fbv h10,b_con (pan:=false) (zds v2 v11 e11),T3 _⟩
   have r0:r=rq none:=by
    have hL:rfR x=(rq none,v11):=by
     unfold rfR
     rw [e2,if_neg (by rw [e7.trans h8];decide),e1,e5,if_neg (by cases v5<;>simp_all),e11]
    first | (rw [← hr,hL];done) | (rw [← hs,hL];done)
   have r1:y=v11:=by
    have hL:rfR x=(rq none,v11):=by
     unfold rfR
     rw [e2,if_neg (by rw [e7.trans h8];decide),e1,e5,if_neg (by cases v5<;>simp_all),e11]
    first | (rw [← hr,hL];done) | (rw [← hs,hL];done)
   rw [r0,r1];exact BFun.fin (r:=.o (.g [.d (pV (.bool false)),.d (pV (.slice none 0 0)),.d (pV (.bool false)),.d (pV (.slice none 0 0))])) (con_b (pan:=false) (zr (F:=FL (A4 []) []) (C:=zyn) (k:=⟨61,[.o (.c (.p 900 0))],[.bx 900 79 [.h 0,.h 1,.h 2]],.o (.g [.k (.bool false),.k (.slice none 0 0),.k (.bool false),.k (.slice none 0 0)]),[.bx 900 79 [.h 14,.h 15,.h 16]]⟩) 0 (zg (f4 [] trivial)) (T4 []) mixed (by kernel_rfl))) (fun _ _ _ _ h=>zhP h)
  | false =>
   have T5:LT (KN w0) Tryz.prog A3 zyo:=fun t=>⟨e_fbv h10,T3 _⟩
   have r0:r=v4:=by
    have hL:rfR x=(v4,v2):=by
     unfold rfR
     rw [e2,if_neg (by rw [e7.trans h8];decide),e1,e5,if_pos (by cases v5<;>simp_all),e4]
    first | (rw [← hr,hL];done) | (rw [← hs,hL];done)
   have r1:y=v2:=by
    have hL:rfR x=(v4,v2):=by
     unfold rfR
     rw [e2,if_neg (by rw [e7.trans h8];decide),e1,e5,if_pos (by cases v5<;>simp_all),e4]
    first | (rw [← hr,hL];done) | (rw [← hs,hL];done)
   rw [r0,r1];exact con_b (pan:=false) (zr (F:=FL (A3 []) []) (C:=zyo) (k:=⟨61,[.o (.c (.p 900 0))],[.bx 900 79 [.h 0,.h 1,.h 2]],.o (.g [.h 7,.h 8,.h 9,.h 10]),[.bx 900 79 [.h 4,.h 5,.h 6]]⟩) 0 (zg (f3 [] trivial)) (T5 []) mixed (by kernel_rfl))
theorem zu0 {w0:World} (s:(List UInt8)):NFun (KN w0) Tryz.prog 19 [.o (.c (pS s))] 79 [pS s,pV (.int .i64 0),pV (.bool false)] :=
 zom (F:=FL [pS s] []) (C:=[]) (as':=[yh 0]) (ls:=[.h 0,.k (.int .i64 0),.k (.bool false)]) ⟨[],[],0⟩ [] 0 (zg ⟨zc,trivial⟩) trivial mixed trivial (fun _ _ _ _ _ hs=>by cases hs) (by kernel_rfl) rfl rfl
theorem zsl {w0:World} (s:List UInt8) (x:RS) (h:(s,0,false)=x):NFun (KN w0) Tryz.prog 19 [.o (.c (pS s))] 79 [pS x.1,pI (x.2.1:Int),pB x.2.2]:=by
 subst h;exact zu0 s
theorem zgi {w0:World} (s:List UInt8) (st:St) (h:some s=st):NFun (KN w0) Tryz.prog 18 [.o (.c (pS s))] 62 [pS (lfO st),pB (bdO st)]:=by
 subst h;exact w_new s
end Go.Proofs.YtjcegdldgjphiaaGreatDoor
