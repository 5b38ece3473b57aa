/-
  Merged: ExQ, ExR.
-/
import Derived.Test.YtdkofaajcpcjkaaGreatDoorMTN
import Derived.Test.YtdkofaajcpcjkaaGreatDoorMTJ
set_option linter.unusedSimpArgs false
set_option linter.unusedVariables false
set_option maxRecDepth 100000
namespace Go.Proofs.YtdkofaajcpcjkaaGreatDoor
open Go.RowKit
def zz (w0:World) (N:Nat):Prop:=∀(d:Int) (s:List UInt8),1≤d→(31 - d).toNat≤N→IxAll w0 s →
 (∀(e:Xp) (r:List UInt8),(readT d s).2.1=e→(readT d s).2.2=r→(readT d s).1=0→BFun false (KN w0) Tryz.prog 28 [.o (.c (.d (pI d))),.o (.c (.p 0 0)),.o (.c (.p 1 0)),.o (.c (.p 2 0)),.o (.c (.p 3 0))] [(9,[.d (pS s)]),(53,[.q 26 [(0,0)]]),(51,[.q 23 [(0,0)]]),(41,[.q 28 [(0,0),(1,0),(2,0),(3,0)]])] (.o (.g [.d (pI e.op),.d (pI e.n),.d (pLs cE e.l)])) [(9,[.d (pS r)]),(53,[.q 26 [(0,0)]]),(51,[.q 23 [(0,0)]]),(41,[.q 28 [(0,0),(1,0),(2,0),(3,0)]])]) ∧
 (∀(k:Int) (r:List UInt8),(readT d s).1=k→(readT d s).2.2=r→(readT d s).1≠0→BFun true (KN w0) Tryz.prog 28 [.o (.c (.d (pI d))),.o (.c (.p 0 0)),.o (.c (.p 1 0)),.o (.c (.p 2 0)),.o (.c (.p 3 0))] [(9,[.d (pS s)]),(53,[.q 26 [(0,0)]]),(51,[.q 23 [(0,0)]]),(41,[.q 28 [(0,0),(1,0),(2,0),(3,0)]])] (.o (.c (.d (pV (.iface 44 (.int .i64 k)))))) [(9,[.d (pS r)]),(53,[.q 26 [(0,0)]]),(51,[.q 23 [(0,0)]]),(41,[.q 28 [(0,0),(1,0),(2,0),(3,0)]])])
theorem za4 {w0:World} {N:Nat} (IH:zz w0 N) (d:Int) (s:List UInt8) (e:Xp) (r:List UInt8) (he:(readT d s).2.1=e) (hr:(readT d s).2.2=r) (h0:((readT d s).1 == 0)=true) (h1:1≤d∧(31 - d).toNat≤N) (hI:IxAll w0 s):BFun false (KN w0) Tryz.prog 28 [.o (.c (.d (pI d))),.o (.c (.p 0 0)),.o (.c (.p 1 0)),.o (.c (.p 2 0)),.o (.c (.p 3 0))] [(9,[.d (pS s)]),(53,[.q 26 [(0,0)]]),(51,[.q 23 [(0,0)]]),(41,[.q 28 [(0,0),(1,0),(2,0),(3,0)]])] (.o (.g [.d (pI e.op),.d (pI e.n),.d (pLs cE e.l)])) [(9,[.d (pS r)]),(53,[.q 26 [(0,0)]]),(51,[.q 23 [(0,0)]]),(41,[.q 28 [(0,0),(1,0),(2,0),(3,0)]])]:=(IH d s h1.1 h1.2 hI).1 e r he hr (eq_of_beq h0)
theorem zem {w0:World} {N:Nat} (IH:zz w0 N) (d:Int) (s:List UInt8) (k:Int) (r:List UInt8) (hk:(readT d s).1=k) (hr:(readT d s).2.2=r) (h0:((readT d s).1 == 0)=false) (h1:1≤d∧(31 - d).toNat≤N) (hI:IxAll w0 s):BFun true (KN w0) Tryz.prog 28 [.o (.c (.d (pI d))),.o (.c (.p 0 0)),.o (.c (.p 1 0)),.o (.c (.p 2 0)),.o (.c (.p 3 0))] [(9,[.d (pS s)]),(53,[.q 26 [(0,0)]]),(51,[.q 23 [(0,0)]]),(41,[.q 28 [(0,0),(1,0),(2,0),(3,0)]])] (.o (.c (.d (pV (.iface 44 (.int .i64 k)))))) [(9,[.d (pS r)]),(53,[.q 26 [(0,0)]]),(51,[.q 23 [(0,0)]]),(41,[.q 28 [(0,0),(1,0),(2,0),(3,0)]])]:=(IH d s h1.1 h1.2 hI).2 k r hk hr (beq_eq_false_iff_ne.1 h0)
theorem zdz {w0:World} (s p:List UInt8) (o:Bool) (ho:(takeC 40 s).isSome=o) (hp:p=[40]):Fun (KN w0) Tryz.prog 29 [.o (.c (pS s)),.o (.c (pS p))] (.o (.c (pB o))):=by
 subst hp;exact zpw s [40] o (by rw [zbq];exact ho)
theorem zh1 {w0:World} (s p a:List UInt8) (o:Bool) (ha:(takeC 36 s).getD s=a) (ho:(takeC 36 s).isSome=o) (hp:p=[36]):Fun (KN w0) Tryz.prog 24 [.o (.c (pS s)),.o (.c (pS p))] (.t [.c (pS a),.c (pB o)]):=by
 subst hp;exact zkS s [36] a o (by rw [zbD];exact ha) (by rw [zbq];exact ho)
theorem flatE (l:List Xp):l.flatMap cE=l.flatMap fun x=>[pI x.op,pI x.n,pLs cE x.l]:=congrArg (fun f=>l.flatMap f) (funext cE_eq)
theorem zbP:∀v W D,pV (.slice none 0 0) v W D→pLs cE ([]:List Xp) v W D:=fun v W D h=>.inl ⟨⟨none,0,h⟩,rfl,rfl⟩
theorem zbm {p q:Pred}:∀qs v W D,(ASh.o (.g [.d p,.d q,.d (pV (.slice none 0 0))])).ok qs v W D→(ASh.o (.g [.d p,.d q,.d (pLs cE ([]:List Xp))])).ok qs v W D:=fun qs v W D ⟨vs,e,h⟩=>⟨vs,e,by
 match vs.toList,h with
 | [a,b,c],⟨h1,h2,h3,_⟩=>exact ⟨h1,h2,zbP _ _ _ h3,trivial⟩⟩
theorem zfV {w0:World} (hL:LibT w0) (s:List UInt8) (r:Int) (hr:(intW s).getD 0=r) (h:(intW s).isSome=true) (hl:s.length<4294967281):BFun false (KN w0) Tryz.prog 30 [.o (.c (.d (pS s)))] [] (.o (.c (.d (pI r)))) []:=by
 intro W D vs qs hnd ha hpre hfit
 match vs,qs,ha,hpre with
 | [v],[],⟨hv,_⟩,_ =>
  refine (zmn hL s r hr h hl W D [v] ⟨hv,trivial⟩ hfit).mono fun e W' h=>?_
  obtain ⟨v',D',rfl,h1,h2⟩:=h
  exact ⟨v',D',rfl,h1,trivial,⟨(zd5 h2.bel).mono fun _ h=>h.elim,h2.dm,h2.dn,h2.dlt⟩⟩
theorem zke {i:Int} {k:Nat} (h:k<5) (hi:i=(k:Int)):∃(n:Nat) (x:List UInt8×Int),i=(n:Int)∧opsL[n]?=some x:=⟨k,_,hi,List.getElem?_eq_getElem (by exact h)⟩
theorem zhC (c:UInt8) (w:List UInt8):((takeC c w).getD w).length≤w.length:=by
 cases h:takeC c w with
 | none=>exact Nat.le_refl _
 | some r=>exact (zL h).length_le
theorem zbo {o:Option Int} (h:¬ o=none):o=some (o.getD 0):=by cases o with
 | none=>exact absurd rfl h
 | some x=>rfl
structure rd_A_T where
 i:Int
def zC:List Atom:=[.sl 0 (yh 0),.sl 1 (.o (.c (.p 900 0))),.sl 2 (.o (.c (.p 901 0))),.sl 3 (.o (.c (.p 902 0))),.sl 4 (.o (.c (.p 903 0))),.sl 6 (.o (.c (.p 0 0))),.sl 10 (yh 6),.sl 15 (yh 0),.sl 16 (yh 2),.sl 18 (yh 1),.sl 19 (yh 3),.sl 20 (yh 4),.sl 35 (.o (.c (.q 23 [(900,0)]))),.sl 37 (.o (.c (.q 26 [(900,0)]))),.sl 38 (yh 6),.sl 39 (yh 8),.sl 40 (.o (.c (.k (.int .i64 5)))),.sl 41 (yh 9),.bx 0 32 [.k (.int .i64 0),.k (.int .i64 0),.k (.slice none 0 0)],.bx 900 9 [.h 7],.bx 901 53 [.q 26 [(900,0)]],.bx 902 51 [.q 23 [(900,0)]],.bx 903 41 [.q 28 [(900,0),(901,0),(902,0),(903,0)]]]
def zd8:LoopS:=⟨12,[.sl 0 (yh 0),.sl 1 (.o (.c (.p 900 0))),.sl 2 (.o (.c (.p 901 0))),.sl 3 (.o (.c (.p 902 0))),.sl 4 (.o (.c (.p 903 0))),.sl 6 (.o (.c (.p 0 0))),.sl 10 (yh 6),.sl 15 (yh 0),.sl 16 (yh 2),.sl 18 (yh 1),.sl 19 (yh 3),.sl 20 (yh 4),.sl 35 (.o (.c (.q 23 [(900,0)]))),.sl 37 (.o (.c (.q 26 [(900,0)]))),.sl 38 (yh 6),.sl 39 (yh 8),.sl 40 (.o (.c (.k (.int .i64 5)))),.sl 41 (.o (.c (.k (.int .i64 0)))),.bx 0 32 [.k (.int .i64 0),.k (.int .i64 0),.k (.slice none 0 0)],.bx 900 9 [.h 7],.bx 901 53 [.q 26 [(900,0)]],.bx 902 51 [.q 23 [(900,0)]],.bx 903 41 [.q 28 [(900,0),(901,0),(902,0),(903,0)]]],(.x 0),[.sl 0 (yh 0),.sl 1 (.o (.c (.p 900 0))),.sl 2 (.o (.c (.p 901 0))),.sl 3 (.o (.c (.p 902 0))),.sl 4 (.o (.c (.p 903 0))),.sl 6 (.o (.c (.p 0 0))),.sl 10 (yh 6),.sl 15 (yh 0),.sl 16 (yh 2),.sl 18 (yh 1),.sl 19 (yh 3),.sl 20 (yh 4),.sl 35 (.o (.c (.q 23 [(900,0)]))),.sl 37 (.o (.c (.q 26 [(900,0)]))),.sl 38 (yh 6),.sl 39 (yh 8),.sl 40 (.o (.c (.k (.int .i64 5)))),.bx 0 32 [.k (.int .i64 0),.k (.int .i64 0),.k (.slice none 0 0)],.bx 900 9 [.h 7],.bx 901 53 [.q 26 [(900,0)]],.bx 902 51 [.q 23 [(900,0)]],.bx 903 41 [.q 28 [(900,0),(901,0),(902,0),(903,0)]]]⟩
theorem zgB {w0:World} (d:Int) (s:(List UInt8)) (N:Nat) (v1:Bool) (v3:Bool) (v5:Bool) (v7:(List UInt8)) (v10:(List UInt8)) (v11:(List UInt8)) (IH:zz w0 N) (hL:LibT w0) (h2:v1=false) (h6:v5=false) (i:Int) (v501:Bool) (n503:Nat) (x504:(List UInt8×Int)) (v507:Bool) (v509:Int) (e501:(decide (i<(5:Int)))=v501) (e507:(!((x504.1:List UInt8) == v10))=v507) (e509:(IntKind.i64.wrap (i+(1:Int)))=v509) (h502:v501=true) (s505:i=(n503:Int)) (s506:opsL[n503]?=some x504) (h508:v507=true) (i':Int) (q0:(v509)=i') (R:Frm) (hR:R.pm=⟨ntOf Tryz.prog 28,[900,901,902,903],[]⟩):Goes (KN w0) Tryz.prog R (lp Tryz.prog 28 0) (FL [pI d,pS s,pB v1,pB v3,pB v5,pS v7,pS v10,pS v11,pLs cOp opsL,pI i] []) zC .n (FL [pI d,pS s,pB v1,pB v3,pB v5,pS v7,pS v10,pS v11,pLs cOp opsL,pI i'] []) zC:=
 goes (x:=.n) (y:=.n) (Fb:=FL [pI d,pS s,pB v1,pB v3,pB v5,pS v7,pS v10,pS v11,pLs cOp opsL,pI i,pB v501,pP (cOp x504),pS x504.1,pI x504.2,pB v507,pI v509] []) (stb:=zC) (tl:=[.sl 0 (yh 0),.sl 1 (.o (.c (.p 900 0))),.sl 2 (.o (.c (.p 901 0))),.sl 3 (.o (.c (.p 902 0))),.sl 4 (.o (.c (.p 903 0))),.sl 6 (.o (.c (.p 0 0))),.sl 10 (yh 6),.sl 15 (yh 0),.sl 16 (yh 2),.sl 18 (yh 1),.sl 19 (yh 3),.sl 20 (yh 4),.sl 35 (.o (.c (.q 23 [(900,0)]))),.sl 37 (.o (.c (.q 26 [(900,0)]))),.sl 38 (yh 6),.sl 39 (yh 8),.sl 40 (.o (.c (.k (.int .i64 5)))),.sl 41 (yh 15),.bx 0 32 [.k (.int .i64 0),.k (.int .i64 0),.k (.slice none 0 0)],.bx 900 9 [.h 7],.bx 901 53 [.q 26 [(900,0)]],.bx 902 51 [.q 23 [(900,0)]],.bx 903 41 [.q 28 [(900,0),(901,0),(902,0),(903,0)]]]) (C:=((10002,.fb 2 false) ::
  (10004,.fb 4 false) ::
  (1005000,.bin .lss 3 (yh 9) (LF (.k (.int .i64 5))) (yh 10)) ::
  (10010,.fb 10 true) ::
  (1005001,.op (.ia 56) [yh 8,yh 9] [] (yh 11)) ::
  (1005002,.op (.ld 57) [yh 11] [] (.o (.g [.h 12,.h 13]))) ::
  (1005008,.bin .neq 9 (yh 12) (yh 6) (yh 14)) ::
  (10014,.fb 14 true) ::
  (1005009,.bin .add 3 (yh 9) (LF (.k (.int .i64 1))) (yh 15)) ::
  []:List (Nat×Ent))) (H:=.no) 5000 (zipA.imp ⟨z_c yy,z_c yy,z_c yy,z_c yy,z_c yy,z_c yy,z_c yy,z_c yy,z_c yy,z_c yy,z_c yy,z_c yy,z_c yy,z_c yy,z_c yy,z_c yy,z_c yy,z_c yy,z_b ⟨yy,yy,yy,trivial⟩,z_b ⟨yy,trivial⟩,z_b ⟨yy,trivial⟩,z_b ⟨yy,trivial⟩,z_b ⟨yy,trivial⟩,trivial⟩) (zg ⟨za,za,za,za,za,za,za,za,(ze (zv rfl)),za,za,(zl ((zv rfl) _)),za,za,za,za,trivial⟩) ⟨e_fbv h2,
  e_fbv h6,
  e_bin (zb rfl) zd (zb rfl) (r_cmp (congrArg some e501)),
  e_fbv h502,
  e_iaL (E:=57) (z:=2) qb (by kernel_rfl) (by kernel_rfl) (zc rfl) (zb rfl) s505 s506 (zc rfl),
  e_ldG (by kernel_rfl) (by kernel_rfl) (zc rfl) rfl rfl rfl,
  e_bin (zb rfl) (zb rfl) (zb rfl) (fun W X Y=>by rw [← e507];exact r_sne W X Y),
  e_fbv h508,
  e_bin (zb rfl) zd (zb rfl) (r_ar (congrArg some e509)),
  trivial⟩ mixed hR trivial (fun _ _ _ hs=>by cases hs) (by kernel_rfl:zA (KN w0) Tryz.prog _ .no ⟨ntOf Tryz.prog 28,[900,901,902,903],[]⟩ (lp Tryz.prog 28 0) 5000 zC .n [.sl 0 (yh 0),.sl 1 (.o (.c (.p 900 0))),.sl 2 (.o (.c (.p 901 0))),.sl 3 (.o (.c (.p 902 0))),.sl 4 (.o (.c (.p 903 0))),.sl 6 (.o (.c (.p 0 0))),.sl 10 (yh 6),.sl 15 (yh 0),.sl 16 (yh 2),.sl 18 (yh 1),.sl 19 (yh 3),.sl 20 (yh 4),.sl 35 (.o (.c (.q 23 [(900,0)]))),.sl 37 (.o (.c (.q 26 [(900,0)]))),.sl 38 (yh 6),.sl 39 (yh 8),.sl 40 (.o (.c (.k (.int .i64 5)))),.sl 41 (yh 15),.bx 0 32 [.k (.int .i64 0),.k (.int .i64 0),.k (.slice none 0 0)],.bx 900 9 [.h 7],.bx 901 53 [.q 26 [(900,0)]],.bx 902 51 [.q 23 [(900,0)]],.bx 903 41 [.q 28 [(900,0),(901,0),(902,0),(903,0)]]]=true) rfl (zipA.imp ⟨z_c yy,z_c yy,z_c yy,z_c yy,z_c yy,z_c yy,z_c yy,z_c yy,z_c yy,z_c yy,z_c yy,z_c yy,z_c yy,z_c yy,z_c yy,z_c yy,z_c yy,z_c (fun β v W h=>(zc rfl β v W).2 (by rw [← q0];exact h)),z_b ⟨yy,yy,yy,trivial⟩,z_b ⟨yy,trivial⟩,z_b ⟨yy,trivial⟩,z_b ⟨yy,trivial⟩,z_b ⟨yy,trivial⟩,trivial⟩)
theorem znS {w0:World} (d:Int) (s:(List UInt8)) (N:Nat) (v1:Bool) (v3:Bool) (v5:Bool) (v7:(List UInt8)) (v10:(List UInt8)) (v11:(List UInt8)) (IH:zz w0 N) (hL:LibT w0) (h2:v1=false) (h6:v5=false) (i:Int) (v501:Bool) (e501:(decide (i<(5:Int)))=v501) (h502:v501=false) (F:Fact) (u0:F.c 0=pI d) (u1:F.c 1=pS s) (u2:F.c 2=pB v1) (u3:F.c 3=pB v3) (u4:F.c 4=pB v5) (u6:F.c 6=pS v10) (u7:F.c 7=pS v11) (u8:F.c 8=pLs cOp opsL) (R:Frm) (hR:R.pm=⟨ntOf Tryz.prog 28,[900,901,902,903],[]⟩):Goes (KN w0) Tryz.prog R (lp Tryz.prog 28 0) (FL [pI d,pS s,pB v1,pB v3,pB v5,pS v7,pS v10,pS v11,pLs cOp opsL,pI i] []) zC (.x 0) F zd8.out:=
 goes (x:=(.x 0)) (y:=(.x 0)) (Fb:=FL [pI d,pS s,pB v1,pB v3,pB v5,pS v7,pS v10,pS v11,pLs cOp opsL,pI i,pB v501] []) (stb:=zC) (tl:=[.sl 0 (yh 0),.sl 1 (.o (.c (.p 900 0))),.sl 2 (.o (.c (.p 901 0))),.sl 3 (.o (.c (.p 902 0))),.sl 4 (.o (.c (.p 903 0))),.sl 6 (.o (.c (.p 0 0))),.sl 10 (yh 6),.sl 15 (yh 0),.sl 16 (yh 2),.sl 18 (yh 1),.sl 19 (yh 3),.sl 20 (yh 4),.sl 35 (.o (.c (.q 23 [(900,0)]))),.sl 37 (.o (.c (.q 26 [(900,0)]))),.sl 38 (yh 6),.sl 39 (yh 8),.sl 40 (.o (.c (.k (.int .i64 5)))),.bx 0 32 [.k (.int .i64 0),.k (.int .i64 0),.k (.slice none 0 0)],.bx 900 9 [.h 7],.bx 901 53 [.q 26 [(900,0)]],.bx 902 51 [.q 23 [(900,0)]],.bx 903 41 [.q 28 [(900,0),(901,0),(902,0),(903,0)]]]) (C:=((10002,.fb 2 false) ::
  (10004,.fb 4 false) ::
  (1005000,.bin .lss 3 (yh 9) (LF (.k (.int .i64 5))) (yh 10)) ::
  (10010,.fb 10 false) ::
  []:List (Nat×Ent))) (H:=.no) 5000 (zipA.imp ⟨z_c yy,z_c yy,z_c yy,z_c yy,z_c yy,z_c yy,z_c yy,z_c yy,z_c yy,z_c yy,z_c yy,z_c yy,z_c yy,z_c yy,z_c yy,z_c yy,z_c yy,z_c yy,z_b ⟨yy,yy,yy,trivial⟩,z_b ⟨yy,trivial⟩,z_b ⟨yy,trivial⟩,z_b ⟨yy,trivial⟩,z_b ⟨yy,trivial⟩,trivial⟩) (zg ⟨za,za,za,za,za,za,za,za,(ze (zv rfl)),za,za,trivial⟩) ⟨e_fbv h2,
  e_fbv h6,
  e_bin (zb rfl) zd (zb rfl) (r_cmp (congrArg some e501)),
  e_fbv h502,
  trivial⟩ mixed hR trivial (fun _ _ _ hs=>by cases hs) (by kernel_rfl:zA (KN w0) Tryz.prog _ .no ⟨ntOf Tryz.prog 28,[900,901,902,903],[]⟩ (lp Tryz.prog 28 0) 5000 zC (.x 0) [.sl 0 (yh 0),.sl 1 (.o (.c (.p 900 0))),.sl 2 (.o (.c (.p 901 0))),.sl 3 (.o (.c (.p 902 0))),.sl 4 (.o (.c (.p 903 0))),.sl 6 (.o (.c (.p 0 0))),.sl 10 (yh 6),.sl 15 (yh 0),.sl 16 (yh 2),.sl 18 (yh 1),.sl 19 (yh 3),.sl 20 (yh 4),.sl 35 (.o (.c (.q 23 [(900,0)]))),.sl 37 (.o (.c (.q 26 [(900,0)]))),.sl 38 (yh 6),.sl 39 (yh 8),.sl 40 (.o (.c (.k (.int .i64 5)))),.bx 0 32 [.k (.int .i64 0),.k (.int .i64 0),.k (.slice none 0 0)],.bx 900 9 [.h 7],.bx 901 53 [.q 26 [(900,0)]],.bx 902 51 [.q 23 [(900,0)]],.bx 903 41 [.q 28 [(900,0),(901,0),(902,0),(903,0)]]]=true) rfl (zipA.imp ⟨z_c (fun β v W h=>(zc u0 β v W).2 h),z_c yy,z_c yy,z_c yy,z_c yy,z_c yy,z_c (fun β v W h=>(zc u6 β v W).2 h),z_c (fun β v W h=>(zc u0 β v W).2 h),z_c (fun β v W h=>(zc u2 β v W).2 h),z_c (fun β v W h=>(zc u1 β v W).2 h),z_c (fun β v W h=>(zc u3 β v W).2 h),z_c (fun β v W h=>(zc u4 β v W).2 h),z_c yy,z_c yy,z_c (fun β v W h=>(zc u6 β v W).2 h),z_c (fun β v W h=>(zc u8 β v W).2 h),z_c yy,z_b ⟨yy,yy,yy,trivial⟩,z_b ⟨fun β v W h=>(zc u7 β v W).2 h,trivial⟩,z_b ⟨yy,trivial⟩,z_b ⟨yy,trivial⟩,z_b ⟨yy,trivial⟩,trivial⟩)
def zo9 {w0:World} (d:Int) (s:(List UInt8)) (N:Nat) (v1:Bool) (v3:Bool) (v5:Bool) (v7:(List UInt8)) (v10:(List UInt8)) (v11:(List UInt8)) (t:rd_A_T):Prop:=(∃(v501:Bool),((decide (t.i<(5:Int)))=v501)∧(v501=false)∧True)
def zkk {w0:World} (d:Int) (s:(List UInt8)) (N:Nat) (v1:Bool) (v3:Bool) (v5:Bool) (v7:(List UInt8)) (v10:(List UInt8)) (v11:(List UInt8)) (t t':rd_A_T):Prop:=(∃(v501:Bool),∃(n503:Nat),∃(x504:(List UInt8×Int)),∃(v507:Bool),∃(v509:Int),((decide (t.i<(5:Int)))=v501)∧((!((x504.1:List UInt8) == v10))=v507)∧((IntKind.i64.wrap (t.i+(1:Int)))=v509)∧(v501=true)∧(t.i=(n503:Int))∧(opsL[n503]?=some x504)∧(v507=true)∧((v509)=t'.i)∧True)
theorem zkl {w0:World} (d:Int) (s:(List UInt8)) (N:Nat) (v1:Bool) (v3:Bool) (v5:Bool) (v7:(List UInt8)) (v10:(List UInt8)) (v11:(List UInt8)) (IH:zz w0 N) (hL:LibT w0) (h2:v1=false) (h6:v5=false) {F:Fact} (u0:F.c 0=pI d) (u1:F.c 1=pS s) (u2:F.c 2=pB v1) (u3:F.c 3=pB v3) (u4:F.c 4=pB v5) (u6:F.c 6=pS v10) (u7:F.c 7=pS v11) (u8:F.c 8=pLs cOp opsL) (R:Frm) (hR:R.pm=⟨ntOf Tryz.prog 28,[900,901,902,903],[]⟩) (J:rd_A_T→Prop) (m:rd_A_T→Nat) (hJ:J { i:=(0:Int) }) (rounds:∀t,J t→zo9 (w0:=w0) d s N v1 v3 v5 v7 v10 v11 t ∨∃t',zkk (w0:=w0) d s N v1 v3 v5 v7 v10 v11 t t'∧m t'<m t∧J t'):zi (KN w0) Tryz.prog F R zd8 (lp Tryz.prog 28 0):=by
 refine zB (T:=rd_A_T) (fun t=>FL [pI d,pS s,pB v1,pB v3,pB v5,pS v7,pS v10,pS v11,pLs cOp opsL,pI t.i] []) J m { i:=(0:Int) } zC hJ (zipA.imp ⟨z_c (fun β v W h=>(zc u0 β v W).1 h),z_c yy,z_c yy,z_c yy,z_c yy,z_c yy,z_c (fun β v W h=>(zc u6 β v W).1 h),z_c (fun β v W h=>(zc u0 β v W).1 h),z_c (fun β v W h=>(zc u2 β v W).1 h),z_c (fun β v W h=>(zc u1 β v W).1 h),z_c (fun β v W h=>(zc u3 β v W).1 h),z_c (fun β v W h=>(zc u4 β v W).1 h),z_c yy,z_c yy,z_c (fun β v W h=>(zc u6 β v W).1 h),z_c (fun β v W h=>(zc u8 β v W).1 h),z_c yy,z_c yy,z_b ⟨yy,yy,yy,trivial⟩,z_b ⟨fun β v W h=>(zc u7 β v W).1 h,trivial⟩,z_b ⟨yy,trivial⟩,z_b ⟨yy,trivial⟩,z_b ⟨yy,trivial⟩,trivial⟩) rfl fun t ht=>?_
 rcases rounds t ht with hz_ | ⟨t',hz_,hm_,hj_⟩
 ·refine .inl ?_
  rcases hz_ with ⟨v501,e501,h502,_⟩
  ·exact znS  d s N v1 v3 v5 v7 v10 v11 IH hL h2 h6 t.i v501 e501 h502  F u0 u1 u2 u3 u4 u6 u7 u8  R hR
 ·refine .inr ⟨t',hm_,hj_,?_⟩
  rcases hz_ with ⟨v501,n503,x504,v507,v509,e501,e507,e509,h502,s505,s506,h508,q0,_⟩
  ·exact zgB  d s N v1 v3 v5 v7 v10 v11 IH hL h2 h6 t.i v501 n503 x504 v507 v509 e501 e507 e509 h502 s505 s506 h508 t'.i q0 R hR
theorem znR {w0:World} (d:Int) (s:(List UInt8)) (N:Nat) (v1:Bool) (v3:Bool) (v5:Bool) (v7:(List UInt8)) (v10:(List UInt8)) (v11:(List UInt8)) (IH:zz w0 N) (hL:LibT w0) (h2:v1=false) (h6:v5=false) {F:Fact} (u0:F.c 0=pI d) (u1:F.c 1=pS s) (u2:F.c 2=pB v1) (u3:F.c 3=pB v3) (u4:F.c 4=pB v5) (u6:F.c 6=pS v10) (u7:F.c 7=pS v11) (u8:F.c 8=pLs cOp opsL) (R:Frm) (hR:R.pm=⟨ntOf Tryz.prog 28,[900,901,902,903],[]⟩) (hI:IxAll w0 v11) (hd:1≤d∧d≤30∧(31 - d).toNat≤N+1) (hO:opOf v10=none):zi (KN w0) Tryz.prog F R zd8 (lp Tryz.prog 28 0):=by
 refine zkl  d s N v1 v3 v5 v7 v10 v11 IH hL h2 h6  u0 u1 u2 u3 u4 u6 u7 u8 R hR (fun ⟨i⟩=>∃k:Nat,i=(k:Int)∧k≤5∧∀(j:Nat) (x:List UInt8×Int),j<k→opsL[j]?=some x→x.1≠v10) (fun ⟨i⟩=>(5 - i).toNat) ⟨0,rfl,Nat.zero_le _,fun j x h=>by omega⟩ fun t hJ=>?_
 obtain ⟨i⟩:=t
 dsimp only at hJ
 obtain ⟨k,hi,hk,hn⟩:=hJ
 obtain ⟨v501,e501⟩:∃v,(decide (i<(5:Int)))=v:=⟨_,rfl⟩
 cases h502:v501 with
 | true =>
  obtain ⟨n503,x504,s505,s506⟩:∃(n503:Nat) (x504:(List UInt8×Int)),i=(n503:Int)∧opsL[n503]?=some x504:=by (have dh502:=of_decide_eq_true (e501.trans h502);exact zke (by omega) hi)
  obtain ⟨v507,e507⟩:∃v,(!((x504.1:List UInt8) == v10))=v:=⟨_,rfl⟩
  cases h508:v507 with
  | true =>
   obtain ⟨v509,e509⟩:∃v,(IntKind.i64.wrap (i+(1:Int)))=v:=⟨_,rfl⟩
   refine .inr ⟨⟨v509⟩,⟨v501,n503,x504,v507,v509,e501,e507,e509,h502,s505,s506,h508,rfl,trivial⟩,?_,?_⟩
   all_goals (have dh502:=of_decide_eq_true (e501.trans h502);have x3:v509=((k+1:Nat):Int):=(by rw [← e509,hi,wri (by omega)];omega))
   ·show (5 - v509).toNat<(5 - i).toNat
    omega
   ·refine ⟨k+1,x3,by omega,fun j x hj hx=>?_⟩
    rcases Nat.lt_or_ge j k with h | h
    ·exact hn j x h hx
    ·obtain rfl:j=n503:=by omega
     rw [s506] at hx
     injection hx with hx
     subst hx
     have z:=e507.trans h508
     simpa using z
  | false =>
   cases h509:(takeC 32 v11).isSome with
   | true =>
    obtain ⟨v510,e510⟩:∃v,((takeC 32 v11).getD [])=v:=⟨_,rfl⟩
    have s511:([32]:List UInt8)=[32]:=by rfl
    have s512:(takeC 32 v11).isSome=true:=by assumption
    obtain ⟨v513,e513⟩:∃v,(IntKind.i64.wrap (d+(1:Int)))=v:=⟨_,rfl⟩
    cases h514:((readT v513 v510).1 == 0) with
    | true =>
     obtain ⟨v515,e515⟩:∃v,((readT v513 v510).2.1)=v:=⟨_,rfl⟩
     obtain ⟨v516,e516⟩:∃v,((readT v513 v510).2.2)=v:=⟨_,rfl⟩
     have s517:((readT v513 v510).1 == 0)=true:=by assumption
     have s518:1≤v513∧(31 - v513).toNat≤N:=by (have dh502:=of_decide_eq_true (e501.trans h502);have qv513:v513=d+1:=(by rw [← e513,wri (by omega)]);have ts512:=zn s512 e510;have ts517:=eq_of_beq s517;have fv515:=e515;have fv516:=e516;rw [qv513] at ts517 fv515 fv516;omega)
     have s519:IxAll w0 v510:=by exact hI.suf (zL (zn s512 e510))
     cases h520:(takeC 32 v516).isSome with
     | true =>
      obtain ⟨v521,e521⟩:∃v,((takeC 32 v516).getD [])=v:=⟨_,rfl⟩
      have s522:([32]:List UInt8)=[32]:=by rfl
      have s523:(takeC 32 v516).isSome=true:=by assumption
      obtain ⟨v524,e524⟩:∃v,(IntKind.i64.wrap (d+(1:Int)))=v:=⟨_,rfl⟩
      cases h525:((readT v524 v521).1 == 0) with
      | true =>
       obtain ⟨v526,e526⟩:∃v,((readT v524 v521).2.1)=v:=⟨_,rfl⟩
       obtain ⟨v527,e527⟩:∃v,((readT v524 v521).2.2)=v:=⟨_,rfl⟩
       have s528:((readT v524 v521).1 == 0)=true:=by assumption
       have s529:1≤v524∧(31 - v524).toNat≤N:=by (have dh502:=of_decide_eq_true (e501.trans h502);have qv513:v513=d+1:=(by rw [← e513,wri (by omega)]);have qv524:v524=d+1:=(by rw [← e524,wri (by omega)]);have ts512:=zn s512 e510;have ts517:=eq_of_beq s517;have fv515:=e515;have fv516:=e516;rw [qv513] at ts517 fv515 fv516;have ts523:=zn s523 e521;have ts528:=eq_of_beq s528;have fv526:=e526;have fv527:=e527;rw [qv524] at ts528 fv526 fv527;omega)
       have s530:IxAll w0 v521:=by exact s519.suf ((zL (zn s523 e521)).trans (e516 ▸ zaX v513 v510))
       cases h531:(takeC 41 v527).isSome with
       | true =>
        obtain ⟨v532,e532⟩:∃v,((takeC 41 v527).getD [])=v:=⟨_,rfl⟩
        have s533:([41]:List UInt8)=[41]:=by rfl
        have s534:(takeC 41 v527).isSome=true:=by assumption
        obtain ⟨v535,e535⟩:∃v,(([v515,v526]:List Xp))=v:=⟨_,rfl⟩
        exfalso
        have y1:x504.1=v10:=(by have z:=e507.trans h508;simpa using z);have y2:=zab s506;rw [y1,hO] at y2;cases y2
       | false =>
        obtain ⟨v532,e532⟩:∃v,((4:Int))=v:=⟨_,rfl⟩
        have s533:([41]:List UInt8)=[41]:=by rfl
        have s534:(takeC 41 v527).isSome=false:=by assumption
        exfalso
        have y1:x504.1=v10:=(by have z:=e507.trans h508;simpa using z);have y2:=zab s506;rw [y1,hO] at y2;cases y2
      | false =>
       obtain ⟨v526,e526⟩:∃v,((readT v524 v521).1)=v:=⟨_,rfl⟩
       obtain ⟨v527,e527⟩:∃v,((readT v524 v521).2.2)=v:=⟨_,rfl⟩
       have s528:((readT v524 v521).1 == 0)=false:=by assumption
       have s529:1≤v524∧(31 - v524).toNat≤N:=by (have dh502:=of_decide_eq_true (e501.trans h502);have qv513:v513=d+1:=(by rw [← e513,wri (by omega)]);have qv524:v524=d+1:=(by rw [← e524,wri (by omega)]);have ts512:=zn s512 e510;have ts517:=eq_of_beq s517;have fv515:=e515;have fv516:=e516;rw [qv513] at ts517 fv515 fv516;have ts523:=zn s523 e521;have ts528:=beq_eq_false_iff_ne.1 s528;have fv526:=e526;have fv527:=e527;rw [qv524] at ts528 fv526 fv527;omega)
       have s530:IxAll w0 v521:=by exact s519.suf ((zL (zn s523 e521)).trans (e516 ▸ zaX v513 v510))
       exfalso
       have y1:x504.1=v10:=(by have z:=e507.trans h508;simpa using z);have y2:=zab s506;rw [y1,hO] at y2;cases y2
     | false =>
      obtain ⟨v521,e521⟩:∃v,((4:Int))=v:=⟨_,rfl⟩
      have s522:([32]:List UInt8)=[32]:=by rfl
      have s523:(takeC 32 v516).isSome=false:=by assumption
      exfalso
      have y1:x504.1=v10:=(by have z:=e507.trans h508;simpa using z);have y2:=zab s506;rw [y1,hO] at y2;cases y2
    | false =>
     obtain ⟨v515,e515⟩:∃v,((readT v513 v510).1)=v:=⟨_,rfl⟩
     obtain ⟨v516,e516⟩:∃v,((readT v513 v510).2.2)=v:=⟨_,rfl⟩
     have s517:((readT v513 v510).1 == 0)=false:=by assumption
     have s518:1≤v513∧(31 - v513).toNat≤N:=by (have dh502:=of_decide_eq_true (e501.trans h502);have qv513:v513=d+1:=(by rw [← e513,wri (by omega)]);have ts512:=zn s512 e510;have ts517:=beq_eq_false_iff_ne.1 s517;have fv515:=e515;have fv516:=e516;rw [qv513] at ts517 fv515 fv516;omega)
     have s519:IxAll w0 v510:=by exact hI.suf (zL (zn s512 e510))
     exfalso
     have y1:x504.1=v10:=(by have z:=e507.trans h508;simpa using z);have y2:=zab s506;rw [y1,hO] at y2;cases y2
   | false =>
    obtain ⟨v510,e510⟩:∃v,((4:Int))=v:=⟨_,rfl⟩
    have s511:([32]:List UInt8)=[32]:=by rfl
    have s512:(takeC 32 v11).isSome=false:=by assumption
    exfalso
    have y1:x504.1=v10:=(by have z:=e507.trans h508;simpa using z);have y2:=zab s506;rw [y1,hO] at y2;cases y2
 | false =>
  refine .inl (⟨v501,e501,h502,trivial⟩)
def zd9:LoopS:=⟨12,[.sl 0 (yh 0),.sl 1 (.o (.c (.p 900 0))),.sl 2 (.o (.c (.p 901 0))),.sl 3 (.o (.c (.p 902 0))),.sl 4 (.o (.c (.p 903 0))),.sl 6 (.o (.c (.p 0 0))),.sl 10 (yh 6),.sl 15 (yh 0),.sl 16 (yh 2),.sl 18 (yh 1),.sl 19 (yh 3),.sl 20 (yh 4),.sl 35 (.o (.c (.q 23 [(900,0)]))),.sl 37 (.o (.c (.q 26 [(900,0)]))),.sl 38 (yh 6),.sl 39 (yh 8),.sl 40 (.o (.c (.k (.int .i64 5)))),.sl 41 (.o (.c (.k (.int .i64 0)))),.bx 0 32 [.k (.int .i64 0),.k (.int .i64 0),.k (.slice none 0 0)],.bx 900 9 [.h 7],.bx 901 53 [.q 26 [(900,0)]],.bx 902 51 [.q 23 [(900,0)]],.bx 903 41 [.q 28 [(900,0),(901,0),(902,0),(903,0)]]],.r,[.sl 0 (yh 0),.sl 1 (.o (.c (.p 900 0))),.sl 2 (.o (.c (.p 901 0))),.sl 3 (.o (.c (.p 902 0))),.sl 4 (.o (.c (.p 903 0))),.sl 6 (.o (.c (.p 0 0))),.sl 10 (yh 6),.sl 15 (yh 0),.sl 16 (yh 2),.sl 18 (yh 1),.sl 19 (yh 3),.sl 20 (yh 4),.sl 35 (.o (.c (.q 23 [(900,0)]))),.sl 37 (.o (.c (.q 26 [(900,0)]))),.sl 38 (yh 6),.sl 39 (yh 8),.sl 40 (.o (.c (.k (.int .i64 5)))),.bx 0 32 [.h 10,.h 11,.h 12],.bx 900 9 [.h 9],.bx 901 53 [.q 26 [(900,0)]],.bx 902 51 [.q 23 [(900,0)]],.bx 903 41 [.q 28 [(900,0),(901,0),(902,0),(903,0)]]]⟩
theorem znU {w0:World} (d:Int) (s:(List UInt8)) (N:Nat) (v1:Bool) (v3:Bool) (v5:Bool) (v7:(List UInt8)) (v10:(List UInt8)) (v11:(List UInt8)) (IH:zz w0 N) (hL:LibT w0) (h2:v1=false) (h6:v5=false) (i:Int) (v501:Bool) (n503:Nat) (x504:(List UInt8×Int)) (v507:Bool) (v510:(List UInt8)) (v513:Int) (v515:Xp) (v516:(List UInt8)) (v521:(List UInt8)) (v524:Int) (v526:Xp) (v527:(List UInt8)) (v532:(List UInt8)) (v535:(List Xp)) (e501:(decide (i<(5:Int)))=v501) (e507:(!((x504.1:List UInt8) == v10))=v507) (e510:((takeC 32 v11).getD [])=v510) (e513:(IntKind.i64.wrap (d+(1:Int)))=v513) (e515:((readT v513 v510).2.1)=v515) (e516:((readT v513 v510).2.2)=v516) (e521:((takeC 32 v516).getD [])=v521) (e524:(IntKind.i64.wrap (d+(1:Int)))=v524) (e526:((readT v524 v521).2.1)=v526) (e527:((readT v524 v521).2.2)=v527) (e532:((takeC 41 v527).getD [])=v532) (e535:(([v515,v526]:List Xp))=v535) (h502:v501=true) (s505:i=(n503:Int)) (s506:opsL[n503]?=some x504) (h508:v507=false) (h509:(takeC 32 v11).isSome=true) (s511:([32]:List UInt8)=[32]) (s512:(takeC 32 v11).isSome=true) (h514:((readT v513 v510).1 == 0)=true) (s517:((readT v513 v510).1 == 0)=true) (s518:1≤v513∧(31 - v513).toNat≤N) (s519:IxAll w0 v510) (h520:(takeC 32 v516).isSome=true) (s522:([32]:List UInt8)=[32]) (s523:(takeC 32 v516).isSome=true) (h525:((readT v524 v521).1 == 0)=true) (s528:((readT v524 v521).1 == 0)=true) (s529:1≤v524∧(31 - v524).toNat≤N) (s530:IxAll w0 v521) (h531:(takeC 41 v527).isSome=true) (s533:([41]:List UInt8)=[41]) (s534:(takeC 41 v527).isSome=true) (r2:(List UInt8)) (xr:Xp) (F:Fact) (u0:F.c 0=pI d) (u1:F.c 1=pS s) (u2:F.c 2=pB v1) (u3:F.c 3=pB v3) (u4:F.c 4=pB v5) (u6:F.c 6=pS v10) (u7:F.c 7=pS v11) (u8:F.c 8=pLs cOp opsL) (u9:F.c 9=pS r2) (u10:F.c 10=pI xr.op) (u11:F.c 11=pI xr.n) (u12:F.c 12=pLs cE xr.l) (q0:((Xp.mk x504.2 (0:Int) v535))=xr) (q1:(v532)=r2) (R:Frm) (hR:R.pm=⟨ntOf Tryz.prog 28,[900,901,902,903],[]⟩):Goes (KN w0) Tryz.prog R (lp Tryz.prog 28 0) (FL [pI d,pS s,pB v1,pB v3,pB v5,pS v7,pS v10,pS v11,pLs cOp opsL,pI i] []) zC .r F zd9.out:=
 goes (x:=.r) (y:=.r) (Fb:=FL [pI d,pS s,pB v1,pB v3,pB v5,pS v7,pS v10,pS v11,pLs cOp opsL,pI i,pB v501,pP (cOp x504),pS x504.1,pI x504.2,pB v507,pS v510,pI v513,pI v515.op,pI v515.n,pLs cE v515.l,pS v516,pS v521,pI v524,pI v526.op,pI v526.n,pLs cE v526.l,pS v527,pS v532,pLs cE v535] []) (stb:=zC) (tl:=[.sl 0 (yh 0),.sl 1 (.o (.c (.p 900 0))),.sl 2 (.o (.c (.p 901 0))),.sl 3 (.o (.c (.p 902 0))),.sl 4 (.o (.c (.p 903 0))),.sl 6 (.o (.c (.p 0 0))),.sl 10 (yh 6),.sl 15 (yh 0),.sl 16 (yh 2),.sl 18 (yh 1),.sl 19 (yh 3),.sl 20 (yh 4),.sl 35 (.o (.c (.q 23 [(900,0)]))),.sl 37 (.o (.c (.q 26 [(900,0)]))),.sl 38 (yh 6),.sl 39 (yh 8),.sl 40 (.o (.c (.k (.int .i64 5)))),.bx 0 32 [.h 13,.k (.int .i64 0),.h 28],.bx 900 9 [.h 27],.bx 901 53 [.q 26 [(900,0)]],.bx 902 51 [.q 23 [(900,0)]],.bx 903 41 [.q 28 [(900,0),(901,0),(902,0),(903,0)]]]) (C:=((10002,.fb 2 false) ::
  (10004,.fb 4 false) ::
  (1005000,.bin .lss 3 (yh 9) (LF (.k (.int .i64 5))) (yh 10)) ::
  (10010,.fb 10 true) ::
  (1005001,.op (.ia 56) [yh 8,yh 9] [] (yh 11)) ::
  (1005002,.op (.ld 57) [yh 11] [] (.o (.g [.h 12,.h 13]))) ::
  (1005008,.bin .neq 9 (yh 12) (yh 6) (yh 14)) ::
  (10014,.fb 14 false) ::
  (1005010,.call ⟨23,[.o (.c (.k (.string ⟨#[32]⟩))),.o (.c (.p 900 0))],[.bx 900 9 [.h 7]],.t [],[.bx 900 9 [.h 15]]⟩) ::
  (1005013,.bin .add 3 (yh 0) (LF (.k (.int .i64 1))) (yh 16)) ::
  (1005014,.call ⟨28,[yh 16,.o (.c (.p 900 0)),.o (.c (.p 901 0)),.o (.c (.p 902 0)),.o (.c (.p 903 0))],[.bx 900 9 [.h 15],.bx 901 53 [.q 26 [(900,0)]],.bx 902 51 [.q 23 [(900,0)]],.bx 903 41 [.q 28 [(900,0),(901,0),(902,0),(903,0)]]],.o (.g [.h 17,.h 18,.h 19]),[.bx 900 9 [.h 20],.bx 901 53 [.q 26 [(900,0)]],.bx 902 51 [.q 23 [(900,0)]],.bx 903 41 [.q 28 [(900,0),(901,0),(902,0),(903,0)]]]⟩) ::
  (1005018,.call ⟨23,[.o (.c (.k (.string ⟨#[32]⟩))),.o (.c (.p 900 0))],[.bx 900 9 [.h 20]],.t [],[.bx 900 9 [.h 21]]⟩) ::
  (1005021,.bin .add 3 (yh 0) (LF (.k (.int .i64 1))) (yh 22)) ::
  (1005022,.call ⟨28,[yh 22,.o (.c (.p 900 0)),.o (.c (.p 901 0)),.o (.c (.p 902 0)),.o (.c (.p 903 0))],[.bx 900 9 [.h 21],.bx 901 53 [.q 26 [(900,0)]],.bx 902 51 [.q 23 [(900,0)]],.bx 903 41 [.q 28 [(900,0),(901,0),(902,0),(903,0)]]],.o (.g [.h 23,.h 24,.h 25]),[.bx 900 9 [.h 26],.bx 901 53 [.q 26 [(900,0)]],.bx 902 51 [.q 23 [(900,0)]],.bx 903 41 [.q 28 [(900,0),(901,0),(902,0),(903,0)]]]⟩) ::
  (1005026,.call ⟨23,[.o (.c (.k (.string ⟨#[41]⟩))),.o (.c (.p 900 0))],[.bx 900 9 [.h 26]],.t [],[.bx 900 9 [.h 27]]⟩) ::
  (1005031,.dat 32 2 [.h 17,.h 18,.h 19,.h 23,.h 24,.h 25] 28) ::
  []:List (Nat×Ent))) (H:=.no) 5000 (zipA.imp ⟨z_c yy,z_c yy,z_c yy,z_c yy,z_c yy,z_c yy,z_c yy,z_c yy,z_c yy,z_c yy,z_c yy,z_c yy,z_c yy,z_c yy,z_c yy,z_c yy,z_c yy,z_c yy,z_b ⟨yy,yy,yy,trivial⟩,z_b ⟨yy,trivial⟩,z_b ⟨yy,trivial⟩,z_b ⟨yy,trivial⟩,z_b ⟨yy,trivial⟩,trivial⟩) (zg ⟨za,za,za,za,za,za,za,za,(ze (zv rfl)),za,za,(zl ((zv rfl) _)),za,za,za,za,za,za,za,(ze (zf rfl)),za,za,za,za,za,(ze (zf rfl)),za,za,(ze (zf rfl)),trivial⟩) ⟨e_fbv h2,
  e_fbv h6,
  e_bin (zb rfl) zd (zb rfl) (r_cmp (congrArg some e501)),
  e_fbv h502,
  e_iaL (E:=57) (z:=2) qb (by kernel_rfl) (by kernel_rfl) (zc rfl) (zb rfl) s505 s506 (zc rfl),
  e_ldG (by kernel_rfl) (by kernel_rfl) (zc rfl) rfl rfl rfl,
  e_bin (zb rfl) (zb rfl) (zb rfl) (fun W X Y=>by rw [← e507];exact r_sne W X Y),
  e_fbv h508,
  b_con (pan:=false) (qw 32 [32] v11 v510 e510 s511 s512),
  e_bin (zb rfl) zd (zb rfl) (r_ar (congrArg some e513)),
  b_con (pan:=false) (za4 IH v513 v510 v515 v516 e515 e516 s517 s518 s519),
  b_con (pan:=false) (qw 32 [32] v516 v521 e521 s522 s523),
  e_bin (zb rfl) zd (zb rfl) (r_ar (congrArg some e524)),
  b_con (pan:=false) (za4 IH v524 v521 v526 v527 e526 e527 s528 s529 s530),
  b_con (pan:=false) (qw 41 [41] v527 v532 e532 s533 s534),
  e_dat (c:=cE) (ps:=(pI v515.op::pI v515.n::pLs cE v515.l::pI v526.op::pI v526.n::pLs cE v526.l::[])) (qs:=(pI v515.op::pI v515.n::pLs cE v515.l::pI v526.op::pI v526.n::pLs cE v526.l::[])) (by rw [← e535];rfl) rfl rfl ((flatE _).trans rfl) (pimps (fun _ _ _ h=>h) <| pimps (fun _ _ _ h=>h) <| pimps (fun _ _ _ h=>h) <| pimps (fun _ _ _ h=>h) <| pimps (fun _ _ _ h=>h) <| pimps (fun _ _ _ h=>h) <| qo) rfl,
  trivial⟩ mixed hR trivial (fun _ _ _ hs=>by cases hs) (by kernel_rfl:zA (KN w0) Tryz.prog _ .no ⟨ntOf Tryz.prog 28,[900,901,902,903],[]⟩ (lp Tryz.prog 28 0) 5000 zC .r [.sl 0 (yh 0),.sl 1 (.o (.c (.p 900 0))),.sl 2 (.o (.c (.p 901 0))),.sl 3 (.o (.c (.p 902 0))),.sl 4 (.o (.c (.p 903 0))),.sl 6 (.o (.c (.p 0 0))),.sl 10 (yh 6),.sl 15 (yh 0),.sl 16 (yh 2),.sl 18 (yh 1),.sl 19 (yh 3),.sl 20 (yh 4),.sl 35 (.o (.c (.q 23 [(900,0)]))),.sl 37 (.o (.c (.q 26 [(900,0)]))),.sl 38 (yh 6),.sl 39 (yh 8),.sl 40 (.o (.c (.k (.int .i64 5)))),.bx 0 32 [.h 13,.k (.int .i64 0),.h 28],.bx 900 9 [.h 27],.bx 901 53 [.q 26 [(900,0)]],.bx 902 51 [.q 23 [(900,0)]],.bx 903 41 [.q 28 [(900,0),(901,0),(902,0),(903,0)]]]=true) rfl (zipA.imp ⟨z_c (fun β v W h=>(zc u0 β v W).2 h),z_c yy,z_c yy,z_c yy,z_c yy,z_c yy,z_c (fun β v W h=>(zc u6 β v W).2 h),z_c (fun β v W h=>(zc u0 β v W).2 h),z_c (fun β v W h=>(zc u2 β v W).2 h),z_c (fun β v W h=>(zc u1 β v W).2 h),z_c (fun β v W h=>(zc u3 β v W).2 h),z_c (fun β v W h=>(zc u4 β v W).2 h),z_c yy,z_c yy,z_c (fun β v W h=>(zc u6 β v W).2 h),z_c (fun β v W h=>(zc u8 β v W).2 h),z_c yy,z_b ⟨fun β v W h=>(zc u10 β v W).2 (by rw [← q0];exact h),fun β v W h=>(zc u11 β v W).2 (by rw [← q0];exact h),fun β v W h=>(zc u12 β v W).2 (by rw [← q0];exact h),trivial⟩,z_b ⟨fun β v W h=>(zc u9 β v W).2 (by rw [← q1];exact h),trivial⟩,z_b ⟨yy,trivial⟩,z_b ⟨yy,trivial⟩,z_b ⟨yy,trivial⟩,trivial⟩)
def zpa {w0:World} (d:Int) (s:(List UInt8)) (N:Nat) (v1:Bool) (v3:Bool) (v5:Bool) (v7:(List UInt8)) (v10:(List UInt8)) (v11:(List UInt8)) (t:rd_A_T) (r2:(List UInt8)) (xr:Xp):Prop:=(∃(v501:Bool),∃(n503:Nat),∃(x504:(List UInt8×Int)),∃(v507:Bool),∃(v510:(List UInt8)),∃(v513:Int),∃(v515:Xp),∃(v516:(List UInt8)),∃(v521:(List UInt8)),∃(v524:Int),∃(v526:Xp),∃(v527:(List UInt8)),∃(v532:(List UInt8)),∃(v535:(List Xp)),((decide (t.i<(5:Int)))=v501)∧((!((x504.1:List UInt8) == v10))=v507)∧(((takeC 32 v11).getD [])=v510)∧((IntKind.i64.wrap (d+(1:Int)))=v513)∧(((readT v513 v510).2.1)=v515)∧(((readT v513 v510).2.2)=v516)∧(((takeC 32 v516).getD [])=v521)∧((IntKind.i64.wrap (d+(1:Int)))=v524)∧(((readT v524 v521).2.1)=v526)∧(((readT v524 v521).2.2)=v527)∧(((takeC 41 v527).getD [])=v532)∧((([v515,v526]:List Xp))=v535)∧(v501=true)∧(t.i=(n503:Int))∧(opsL[n503]?=some x504)∧(v507=false)∧((takeC 32 v11).isSome=true)∧(([32]:List UInt8)=[32])∧((takeC 32 v11).isSome=true)∧(((readT v513 v510).1 == 0)=true)∧(((readT v513 v510).1 == 0)=true)∧(1≤v513∧(31 - v513).toNat≤N)∧(IxAll w0 v510)∧((takeC 32 v516).isSome=true)∧(([32]:List UInt8)=[32])∧((takeC 32 v516).isSome=true)∧(((readT v524 v521).1 == 0)=true)∧(((readT v524 v521).1 == 0)=true)∧(1≤v524∧(31 - v524).toNat≤N)∧(IxAll w0 v521)∧((takeC 41 v527).isSome=true)∧(([41]:List UInt8)=[41])∧((takeC 41 v527).isSome=true)∧(((Xp.mk x504.2 (0:Int) v535))=xr)∧((v532)=r2)∧True)
theorem zkm {w0:World} (d:Int) (s:(List UInt8)) (N:Nat) (v1:Bool) (v3:Bool) (v5:Bool) (v7:(List UInt8)) (v10:(List UInt8)) (v11:(List UInt8)) (IH:zz w0 N) (hL:LibT w0) (h2:v1=false) (h6:v5=false) (r2:(List UInt8)) (xr:Xp) {F:Fact} (u0:F.c 0=pI d) (u1:F.c 1=pS s) (u2:F.c 2=pB v1) (u3:F.c 3=pB v3) (u4:F.c 4=pB v5) (u6:F.c 6=pS v10) (u7:F.c 7=pS v11) (u8:F.c 8=pLs cOp opsL) (u9:F.c 9=pS r2) (u10:F.c 10=pI xr.op) (u11:F.c 11=pI xr.n) (u12:F.c 12=pLs cE xr.l) (R:Frm) (hR:R.pm=⟨ntOf Tryz.prog 28,[900,901,902,903],[]⟩) (J:rd_A_T→Prop) (m:rd_A_T→Nat) (hJ:J { i:=(0:Int) }) (rounds:∀t,J t→zpa (w0:=w0) d s N v1 v3 v5 v7 v10 v11 t r2 xr∨∃t',zkk (w0:=w0) d s N v1 v3 v5 v7 v10 v11 t t'∧m t'<m t∧J t'):zi (KN w0) Tryz.prog F R zd9 (lp Tryz.prog 28 0):=by
 refine zB (T:=rd_A_T) (fun t=>FL [pI d,pS s,pB v1,pB v3,pB v5,pS v7,pS v10,pS v11,pLs cOp opsL,pI t.i] []) J m { i:=(0:Int) } zC hJ (zipA.imp ⟨z_c (fun β v W h=>(zc u0 β v W).1 h),z_c yy,z_c yy,z_c yy,z_c yy,z_c yy,z_c (fun β v W h=>(zc u6 β v W).1 h),z_c (fun β v W h=>(zc u0 β v W).1 h),z_c (fun β v W h=>(zc u2 β v W).1 h),z_c (fun β v W h=>(zc u1 β v W).1 h),z_c (fun β v W h=>(zc u3 β v W).1 h),z_c (fun β v W h=>(zc u4 β v W).1 h),z_c yy,z_c yy,z_c (fun β v W h=>(zc u6 β v W).1 h),z_c (fun β v W h=>(zc u8 β v W).1 h),z_c yy,z_c yy,z_b ⟨yy,yy,yy,trivial⟩,z_b ⟨fun β v W h=>(zc u7 β v W).1 h,trivial⟩,z_b ⟨yy,trivial⟩,z_b ⟨yy,trivial⟩,z_b ⟨yy,trivial⟩,trivial⟩) rfl fun t ht=>?_
 rcases rounds t ht with hz_ | ⟨t',hz_,hm_,hj_⟩
 ·refine .inl ?_
  rcases hz_ with ⟨v501,n503,x504,v507,v510,v513,v515,v516,v521,v524,v526,v527,v532,v535,e501,e507,e510,e513,e515,e516,e521,e524,e526,e527,e532,e535,h502,s505,s506,h508,h509,s511,s512,h514,s517,s518,s519,h520,s522,s523,h525,s528,s529,s530,h531,s533,s534,q0,q1,_⟩
  ·exact znU  d s N v1 v3 v5 v7 v10 v11 IH hL h2 h6 t.i v501 n503 x504 v507 v510 v513 v515 v516 v521 v524 v526 v527 v532 v535 e501 e507 e510 e513 e515 e516 e521 e524 e526 e527 e532 e535 h502 s505 s506 h508 h509 s511 s512 h514 s517 s518 s519 h520 s522 s523 h525 s528 s529 s530 h531 s533 s534 r2 xr F u0 u1 u2 u3 u4 u6 u7 u8 u9 u10 u11 u12 q0 q1 R hR
 ·refine .inr ⟨t',hm_,hj_,?_⟩
  rcases hz_ with ⟨v501,n503,x504,v507,v509,e501,e507,e509,h502,s505,s506,h508,q0,_⟩
  ·exact zgB  d s N v1 v3 v5 v7 v10 v11 IH hL h2 h6 t.i v501 n503 x504 v507 v509 e501 e507 e509 h502 s505 s506 h508 t'.i q0 R hR
theorem znT {w0:World} (d:Int) (s:(List UInt8)) (N:Nat) (v1:Bool) (v3:Bool) (v5:Bool) (v7:(List UInt8)) (v10:(List UInt8)) (v11:(List UInt8)) (IH:zz w0 N) (hL:LibT w0) (h2:v1=false) (h6:v5=false) (r2:(List UInt8)) (xr:Xp) {F:Fact} (u0:F.c 0=pI d) (u1:F.c 1=pS s) (u2:F.c 2=pB v1) (u3:F.c 3=pB v3) (u4:F.c 4=pB v5) (u6:F.c 6=pS v10) (u7:F.c 7=pS v11) (u8:F.c 8=pLs cOp opsL) (u9:F.c 9=pS r2) (u10:F.c 10=pI xr.op) (u11:F.c 11=pI xr.n) (u12:F.c 12=pLs cE xr.l) (R:Frm) (hR:R.pm=⟨ntOf Tryz.prog 28,[900,901,902,903],[]⟩) (hI:IxAll w0 v11) (hd:1≤d∧d≤30∧(31 - d).toNat≤N+1) (o:Int) (hO:opOf v10=some o) (hA0:(argsT (readT (d+1)) o v11).1=0) (hA1:(argsT (readT (d+1)) o v11).2.1=xr) (hA2:(argsT (readT (d+1)) o v11).2.2=r2):zi (KN w0) Tryz.prog F R zd9 (lp Tryz.prog 28 0):=by
 refine zkm  d s N v1 v3 v5 v7 v10 v11 IH hL h2 h6 r2 xr u0 u1 u2 u3 u4 u6 u7 u8 u9 u10 u11 u12 R hR (fun ⟨i⟩=>∃k:Nat,i=(k:Int)∧k≤5∧∀(j:Nat) (x:List UInt8×Int),j<k→opsL[j]?=some x→x.1≠v10) (fun ⟨i⟩=>(5 - i).toNat) ⟨0,rfl,Nat.zero_le _,fun j x h=>by omega⟩ fun t hJ=>?_
 obtain ⟨i⟩:=t
 dsimp only at hJ
 obtain ⟨k,hi,hk,hn⟩:=hJ
 obtain ⟨v501,e501⟩:∃v,(decide (i<(5:Int)))=v:=⟨_,rfl⟩
 cases h502:v501 with
 | true =>
  obtain ⟨n503,x504,s505,s506⟩:∃(n503:Nat) (x504:(List UInt8×Int)),i=(n503:Int)∧opsL[n503]?=some x504:=by (have dh502:=of_decide_eq_true (e501.trans h502);exact zke (by omega) hi)
  obtain ⟨v507,e507⟩:∃v,(!((x504.1:List UInt8) == v10))=v:=⟨_,rfl⟩
  cases h508:v507 with
  | true =>
   obtain ⟨v509,e509⟩:∃v,(IntKind.i64.wrap (i+(1:Int)))=v:=⟨_,rfl⟩
   refine .inr ⟨⟨v509⟩,⟨v501,n503,x504,v507,v509,e501,e507,e509,h502,s505,s506,h508,rfl,trivial⟩,?_,?_⟩
   all_goals (have dh502:=of_decide_eq_true (e501.trans h502);have x3:v509=((k+1:Nat):Int):=(by rw [← e509,hi,wri (by omega)];omega))
   ·show (5 - v509).toNat<(5 - i).toNat
    omega
   ·refine ⟨k+1,x3,by omega,fun j x hj hx=>?_⟩
    rcases Nat.lt_or_ge j k with h | h
    ·exact hn j x h hx
    ·obtain rfl:j=n503:=by omega
     rw [s506] at hx
     injection hx with hx
     subst hx
     have z:=e507.trans h508
     simpa using z
  | false =>
   cases h509:(takeC 32 v11).isSome with
   | true =>
    obtain ⟨v510,e510⟩:∃v,((takeC 32 v11).getD [])=v:=⟨_,rfl⟩
    have s511:([32]:List UInt8)=[32]:=by rfl
    have s512:(takeC 32 v11).isSome=true:=by assumption
    obtain ⟨v513,e513⟩:∃v,(IntKind.i64.wrap (d+(1:Int)))=v:=⟨_,rfl⟩
    cases h514:((readT v513 v510).1 == 0) with
    | true =>
     obtain ⟨v515,e515⟩:∃v,((readT v513 v510).2.1)=v:=⟨_,rfl⟩
     obtain ⟨v516,e516⟩:∃v,((readT v513 v510).2.2)=v:=⟨_,rfl⟩
     have s517:((readT v513 v510).1 == 0)=true:=by assumption
     have s518:1≤v513∧(31 - v513).toNat≤N:=by (have dh502:=of_decide_eq_true (e501.trans h502);have qv513:v513=d+1:=(by rw [← e513,wri (by omega)]);have ts512:=zn s512 e510;have ts517:=eq_of_beq s517;have fv515:=e515;have fv516:=e516;rw [qv513] at ts517 fv515 fv516;omega)
     have s519:IxAll w0 v510:=by exact hI.suf (zL (zn s512 e510))
     cases h520:(takeC 32 v516).isSome with
     | true =>
      obtain ⟨v521,e521⟩:∃v,((takeC 32 v516).getD [])=v:=⟨_,rfl⟩
      have s522:([32]:List UInt8)=[32]:=by rfl
      have s523:(takeC 32 v516).isSome=true:=by assumption
      obtain ⟨v524,e524⟩:∃v,(IntKind.i64.wrap (d+(1:Int)))=v:=⟨_,rfl⟩
      cases h525:((readT v524 v521).1 == 0) with
      | true =>
       obtain ⟨v526,e526⟩:∃v,((readT v524 v521).2.1)=v:=⟨_,rfl⟩
       obtain ⟨v527,e527⟩:∃v,((readT v524 v521).2.2)=v:=⟨_,rfl⟩
       have s528:((readT v524 v521).1 == 0)=true:=by assumption
       have s529:1≤v524∧(31 - v524).toNat≤N:=by (have dh502:=of_decide_eq_true (e501.trans h502);have qv513:v513=d+1:=(by rw [← e513,wri (by omega)]);have qv524:v524=d+1:=(by rw [← e524,wri (by omega)]);have ts512:=zn s512 e510;have ts517:=eq_of_beq s517;have fv515:=e515;have fv516:=e516;rw [qv513] at ts517 fv515 fv516;have ts523:=zn s523 e521;have ts528:=eq_of_beq s528;have fv526:=e526;have fv527:=e527;rw [qv524] at ts528 fv526 fv527;omega)
       have s530:IxAll w0 v521:=by exact s519.suf ((zL (zn s523 e521)).trans (e516 ▸ zaX v513 v510))
       cases h531:(takeC 41 v527).isSome with
       | true =>
        obtain ⟨v532,e532⟩:∃v,((takeC 41 v527).getD [])=v:=⟨_,rfl⟩
        have s533:([41]:List UInt8)=[41]:=by rfl
        have s534:(takeC 41 v527).isSome=true:=by assumption
        obtain ⟨v535,e535⟩:∃v,(([v515,v526]:List Xp))=v:=⟨_,rfl⟩
        refine .inl (⟨v501,n503,x504,v507,v510,v513,v515,v516,v521,v524,v526,v527,v532,v535,e501,e507,e510,e513,e515,e516,e521,e524,e526,e527,e532,e535,h502,s505,s506,h508,h509,s511,s512,h514,s517,s518,s519,h520,s522,s523,h525,s528,s529,s530,h531,s533,s534,?_,?_,trivial⟩)
        all_goals (have dh502:=of_decide_eq_true (e501.trans h502);have qv513:v513=d+1:=(by rw [← e513,wri (by omega)]);have qv524:v524=d+1:=(by rw [← e524,wri (by omega)]);have ts512:=zn s512 e510;have ts517:=eq_of_beq s517;have fv515:=e515;have fv516:=e516;rw [qv513] at ts517 fv515 fv516;have ts523:=zn s523 e521;have ts528:=eq_of_beq s528;have fv526:=e526;have fv527:=e527;rw [qv524] at ts528 fv526 fv527;have ts534:=zn s534 e532;have y1:x504.1=v10:=(by have z:=e507.trans h508;simpa using z);have y2:=zab s506;rw [y1,hO] at y2;injection y2 with y2;rw [y2] at hA0 hA2 hA1;simp only [argsT,ts512,fv515,fv516,ts517,ts523,fv526,fv527,ts528,ts534,ne_eq,not_true_eq_false,not_false_eq_true,if_false,if_true] at hA0 hA2 hA1;simp_all)
       | false =>
        obtain ⟨v532,e532⟩:∃v,((4:Int))=v:=⟨_,rfl⟩
        have s533:([41]:List UInt8)=[41]:=by rfl
        have s534:(takeC 41 v527).isSome=false:=by assumption
        exfalso
        have dh502:=of_decide_eq_true (e501.trans h502);have qv513:v513=d+1:=(by rw [← e513,wri (by omega)]);have qv524:v524=d+1:=(by rw [← e524,wri (by omega)]);have ts512:=zn s512 e510;have ts517:=eq_of_beq s517;have fv515:=e515;have fv516:=e516;rw [qv513] at ts517 fv515 fv516;have ts523:=zn s523 e521;have ts528:=eq_of_beq s528;have fv526:=e526;have fv527:=e527;rw [qv524] at ts528 fv526 fv527;have ts534:=zM s534;have y1:x504.1=v10:=(by have z:=e507.trans h508;simpa using z);have y2:=zab s506;rw [y1,hO] at y2;injection y2 with y2;rw [y2] at hA0 hA2 hA1;simp only [argsT,ts512,fv515,fv516,ts517,ts523,fv526,fv527,ts528,ts534,ne_eq,not_true_eq_false,not_false_eq_true,if_false,if_true] at hA0 hA2 hA1;first | exact absurd hA0 (by decide) | exact hk0 hA0.symm | (exfalso;simp_all;done)
      | false =>
       obtain ⟨v526,e526⟩:∃v,((readT v524 v521).1)=v:=⟨_,rfl⟩
       obtain ⟨v527,e527⟩:∃v,((readT v524 v521).2.2)=v:=⟨_,rfl⟩
       have s528:((readT v524 v521).1 == 0)=false:=by assumption
       have s529:1≤v524∧(31 - v524).toNat≤N:=by (have dh502:=of_decide_eq_true (e501.trans h502);have qv513:v513=d+1:=(by rw [← e513,wri (by omega)]);have qv524:v524=d+1:=(by rw [← e524,wri (by omega)]);have ts512:=zn s512 e510;have ts517:=eq_of_beq s517;have fv515:=e515;have fv516:=e516;rw [qv513] at ts517 fv515 fv516;have ts523:=zn s523 e521;have ts528:=beq_eq_false_iff_ne.1 s528;have fv526:=e526;have fv527:=e527;rw [qv524] at ts528 fv526 fv527;omega)
       have s530:IxAll w0 v521:=by exact s519.suf ((zL (zn s523 e521)).trans (e516 ▸ zaX v513 v510))
       exfalso
       have dh502:=of_decide_eq_true (e501.trans h502);have qv513:v513=d+1:=(by rw [← e513,wri (by omega)]);have qv524:v524=d+1:=(by rw [← e524,wri (by omega)]);have ts512:=zn s512 e510;have ts517:=eq_of_beq s517;have fv515:=e515;have fv516:=e516;rw [qv513] at ts517 fv515 fv516;have ts523:=zn s523 e521;have ts528:=beq_eq_false_iff_ne.1 s528;have fv526:=e526;have fv527:=e527;rw [qv524] at ts528 fv526 fv527;have y1:x504.1=v10:=(by have z:=e507.trans h508;simpa using z);have y2:=zab s506;rw [y1,hO] at y2;injection y2 with y2;rw [y2] at hA0 hA2 hA1;simp only [argsT,ts512,fv515,fv516,ts517,ts523,fv526,fv527,ts528,ne_eq,not_true_eq_false,not_false_eq_true,if_false,if_true] at hA0 hA2 hA1;first | exact absurd hA0 (by decide) | exact hk0 hA0.symm | (exfalso;simp_all;done)
     | false =>
      obtain ⟨v521,e521⟩:∃v,((4:Int))=v:=⟨_,rfl⟩
      have s522:([32]:List UInt8)=[32]:=by rfl
      have s523:(takeC 32 v516).isSome=false:=by assumption
      exfalso
      have dh502:=of_decide_eq_true (e501.trans h502);have qv513:v513=d+1:=(by rw [← e513,wri (by omega)]);have ts512:=zn s512 e510;have ts517:=eq_of_beq s517;have fv515:=e515;have fv516:=e516;rw [qv513] at ts517 fv515 fv516;have ts523:=zM s523;have y1:x504.1=v10:=(by have z:=e507.trans h508;simpa using z);have y2:=zab s506;rw [y1,hO] at y2;injection y2 with y2;rw [y2] at hA0 hA2 hA1;simp only [argsT,ts512,fv515,fv516,ts517,ts523,ne_eq,not_true_eq_false,not_false_eq_true,if_false,if_true] at hA0 hA2 hA1;first | exact absurd hA0 (by decide) | exact hk0 hA0.symm | (exfalso;simp_all;done)
    | false =>
     obtain ⟨v515,e515⟩:∃v,((readT v513 v510).1)=v:=⟨_,rfl⟩
     obtain ⟨v516,e516⟩:∃v,((readT v513 v510).2.2)=v:=⟨_,rfl⟩
     have s517:((readT v513 v510).1 == 0)=false:=by assumption
     have s518:1≤v513∧(31 - v513).toNat≤N:=by (have dh502:=of_decide_eq_true (e501.trans h502);have qv513:v513=d+1:=(by rw [← e513,wri (by omega)]);have ts512:=zn s512 e510;have ts517:=beq_eq_false_iff_ne.1 s517;have fv515:=e515;have fv516:=e516;rw [qv513] at ts517 fv515 fv516;omega)
     have s519:IxAll w0 v510:=by exact hI.suf (zL (zn s512 e510))
     exfalso
     have dh502:=of_decide_eq_true (e501.trans h502);have qv513:v513=d+1:=(by rw [← e513,wri (by omega)]);have ts512:=zn s512 e510;have ts517:=beq_eq_false_iff_ne.1 s517;have fv515:=e515;have fv516:=e516;rw [qv513] at ts517 fv515 fv516;have y1:x504.1=v10:=(by have z:=e507.trans h508;simpa using z);have y2:=zab s506;rw [y1,hO] at y2;injection y2 with y2;rw [y2] at hA0 hA2 hA1;simp only [argsT,ts512,fv515,fv516,ts517,ne_eq,not_true_eq_false,not_false_eq_true,if_false,if_true] at hA0 hA2 hA1;first | exact absurd hA0 (by decide) | exact hk0 hA0.symm | (exfalso;simp_all;done)
   | false =>
    obtain ⟨v510,e510⟩:∃v,((4:Int))=v:=⟨_,rfl⟩
    have s511:([32]:List UInt8)=[32]:=by rfl
    have s512:(takeC 32 v11).isSome=false:=by assumption
    exfalso
    have dh502:=of_decide_eq_true (e501.trans h502);have ts512:=zM s512;have y1:x504.1=v10:=(by have z:=e507.trans h508;simpa using z);have y2:=zab s506;rw [y1,hO] at y2;injection y2 with y2;rw [y2] at hA0 hA2 hA1;simp only [argsT,ts512,ne_eq,not_true_eq_false,not_false_eq_true,if_false,if_true] at hA0 hA2 hA1;first | exact absurd hA0 (by decide) | exact hk0 hA0.symm | (exfalso;simp_all;done)
 | false =>
  exfalso
  have dh502:=of_decide_eq_false (e501.trans h502)
  exact zkc hO (fun j x hj hx=>hn j x (by omega) hx)
def zbJ:LoopS:=⟨12,[.sl 0 (yh 0),.sl 1 (.o (.c (.p 900 0))),.sl 2 (.o (.c (.p 901 0))),.sl 3 (.o (.c (.p 902 0))),.sl 4 (.o (.c (.p 903 0))),.sl 6 (.o (.c (.p 0 0))),.sl 10 (yh 6),.sl 15 (yh 0),.sl 16 (yh 2),.sl 18 (yh 1),.sl 19 (yh 3),.sl 20 (yh 4),.sl 35 (.o (.c (.q 23 [(900,0)]))),.sl 37 (.o (.c (.q 26 [(900,0)]))),.sl 38 (yh 6),.sl 39 (yh 8),.sl 40 (.o (.c (.k (.int .i64 5)))),.sl 41 (.o (.c (.k (.int .i64 0)))),.bx 0 32 [.k (.int .i64 0),.k (.int .i64 0),.k (.slice none 0 0)],.bx 900 9 [.h 7],.bx 901 53 [.q 26 [(900,0)]],.bx 902 51 [.q 23 [(900,0)]],.bx 903 41 [.q 28 [(900,0),(901,0),(902,0),(903,0)]]],(.p (yh 10)),[.bx 0 32 [.k (.int .i64 0),.k (.int .i64 0),.k (.slice none 0 0)],.bx 900 9 [.h 9],.bx 901 53 [.q 26 [(900,0)]],.bx 902 51 [.q 23 [(900,0)]],.bx 903 41 [.q 28 [(900,0),(901,0),(902,0),(903,0)]]]⟩
theorem znW {w0:World} (d:Int) (s:(List UInt8)) (N:Nat) (v1:Bool) (v3:Bool) (v5:Bool) (v7:(List UInt8)) (v10:(List UInt8)) (v11:(List UInt8)) (IH:zz w0 N) (hL:LibT w0) (h2:v1=false) (h6:v5=false) (i:Int) (v501:Bool) (n503:Nat) (x504:(List UInt8×Int)) (v507:Bool) (v510:(List UInt8)) (v513:Int) (v515:Xp) (v516:(List UInt8)) (v521:(List UInt8)) (v524:Int) (v526:Xp) (v527:(List UInt8)) (v532:Int) (e501:(decide (i<(5:Int)))=v501) (e507:(!((x504.1:List UInt8) == v10))=v507) (e510:((takeC 32 v11).getD [])=v510) (e513:(IntKind.i64.wrap (d+(1:Int)))=v513) (e515:((readT v513 v510).2.1)=v515) (e516:((readT v513 v510).2.2)=v516) (e521:((takeC 32 v516).getD [])=v521) (e524:(IntKind.i64.wrap (d+(1:Int)))=v524) (e526:((readT v524 v521).2.1)=v526) (e527:((readT v524 v521).2.2)=v527) (e532:((4:Int))=v532) (h502:v501=true) (s505:i=(n503:Int)) (s506:opsL[n503]?=some x504) (h508:v507=false) (h509:(takeC 32 v11).isSome=true) (s511:([32]:List UInt8)=[32]) (s512:(takeC 32 v11).isSome=true) (h514:((readT v513 v510).1 == 0)=true) (s517:((readT v513 v510).1 == 0)=true) (s518:1≤v513∧(31 - v513).toNat≤N) (s519:IxAll w0 v510) (h520:(takeC 32 v516).isSome=true) (s522:([32]:List UInt8)=[32]) (s523:(takeC 32 v516).isSome=true) (h525:((readT v524 v521).1 == 0)=true) (s528:((readT v524 v521).1 == 0)=true) (s529:1≤v524∧(31 - v524).toNat≤N) (s530:IxAll w0 v521) (h531:(takeC 41 v527).isSome=false) (s533:([41]:List UInt8)=[41]) (s534:(takeC 41 v527).isSome=false) (r2:(List UInt8)) (kk:Int) (F:Fact) (u0:F.c 0=pI d) (u1:F.c 1=pS s) (u2:F.c 2=pB v1) (u3:F.c 3=pB v3) (u4:F.c 4=pB v5) (u6:F.c 6=pS v10) (u7:F.c 7=pS v11) (u8:F.c 8=pLs cOp opsL) (u9:F.c 9=pS r2) (u10:F.c 10=pV (.iface 44 (.int .i64 kk))) (q0:(v527)=r2) (q1:(v532)=kk) (R:Frm) (hR:R.pm=⟨ntOf Tryz.prog 28,[900,901,902,903],[]⟩):Goes (KN w0) Tryz.prog R (lp Tryz.prog 28 0) (FL [pI d,pS s,pB v1,pB v3,pB v5,pS v7,pS v10,pS v11,pLs cOp opsL,pI i] []) zC (.p (yh 10)) F zbJ.out:=
 goes (x:=(.p (yh 27))) (y:=(.p (yh 10))) (Fb:=FL [pI d,pS s,pB v1,pB v3,pB v5,pS v7,pS v10,pS v11,pLs cOp opsL,pI i,pB v501,pP (cOp x504),pS x504.1,pI x504.2,pB v507,pS v510,pI v513,pI v515.op,pI v515.n,pLs cE v515.l,pS v516,pS v521,pI v524,pI v526.op,pI v526.n,pLs cE v526.l,pS v527,pV (.iface 44 (.int .i64 v532))] []) (stb:=zC) (tl:=[.bx 0 32 [.k (.int .i64 0),.k (.int .i64 0),.k (.slice none 0 0)],.bx 900 9 [.h 26],.bx 901 53 [.q 26 [(900,0)]],.bx 902 51 [.q 23 [(900,0)]],.bx 903 41 [.q 28 [(900,0),(901,0),(902,0),(903,0)]]]) (C:=((10002,.fb 2 false) ::
  (10004,.fb 4 false) ::
  (1005000,.bin .lss 3 (yh 9) (LF (.k (.int .i64 5))) (yh 10)) ::
  (10010,.fb 10 true) ::
  (1005001,.op (.ia 56) [yh 8,yh 9] [] (yh 11)) ::
  (1005002,.op (.ld 57) [yh 11] [] (.o (.g [.h 12,.h 13]))) ::
  (1005008,.bin .neq 9 (yh 12) (yh 6) (yh 14)) ::
  (10014,.fb 14 false) ::
  (1005010,.call ⟨23,[.o (.c (.k (.string ⟨#[32]⟩))),.o (.c (.p 900 0))],[.bx 900 9 [.h 7]],.t [],[.bx 900 9 [.h 15]]⟩) ::
  (1005013,.bin .add 3 (yh 0) (LF (.k (.int .i64 1))) (yh 16)) ::
  (1005014,.call ⟨28,[yh 16,.o (.c (.p 900 0)),.o (.c (.p 901 0)),.o (.c (.p 902 0)),.o (.c (.p 903 0))],[.bx 900 9 [.h 15],.bx 901 53 [.q 26 [(900,0)]],.bx 902 51 [.q 23 [(900,0)]],.bx 903 41 [.q 28 [(900,0),(901,0),(902,0),(903,0)]]],.o (.g [.h 17,.h 18,.h 19]),[.bx 900 9 [.h 20],.bx 901 53 [.q 26 [(900,0)]],.bx 902 51 [.q 23 [(900,0)]],.bx 903 41 [.q 28 [(900,0),(901,0),(902,0),(903,0)]]]⟩) ::
  (1005018,.call ⟨23,[.o (.c (.k (.string ⟨#[32]⟩))),.o (.c (.p 900 0))],[.bx 900 9 [.h 20]],.t [],[.bx 900 9 [.h 21]]⟩) ::
  (1005021,.bin .add 3 (yh 0) (LF (.k (.int .i64 1))) (yh 22)) ::
  (1005022,.call ⟨28,[yh 22,.o (.c (.p 900 0)),.o (.c (.p 901 0)),.o (.c (.p 902 0)),.o (.c (.p 903 0))],[.bx 900 9 [.h 21],.bx 901 53 [.q 26 [(900,0)]],.bx 902 51 [.q 23 [(900,0)]],.bx 903 41 [.q 28 [(900,0),(901,0),(902,0),(903,0)]]],.o (.g [.h 23,.h 24,.h 25]),[.bx 900 9 [.h 26],.bx 901 53 [.q 26 [(900,0)]],.bx 902 51 [.q 23 [(900,0)]],.bx 903 41 [.q 28 [(900,0),(901,0),(902,0),(903,0)]]]⟩) ::
  (1005026,.pan ⟨23,[.o (.c (.k (.string ⟨#[41]⟩))),.o (.c (.p 900 0))],[.bx 900 9 [.h 26]],yh 27,[.bx 900 9 [.h 26]]⟩) ::
  []:List (Nat×Ent))) (H:=.no) 5000 (zipA.imp ⟨z_c yy,z_c yy,z_c yy,z_c yy,z_c yy,z_c yy,z_c yy,z_c yy,z_c yy,z_c yy,z_c yy,z_c yy,z_c yy,z_c yy,z_c yy,z_c yy,z_c yy,z_c yy,z_b ⟨yy,yy,yy,trivial⟩,z_b ⟨yy,trivial⟩,z_b ⟨yy,trivial⟩,z_b ⟨yy,trivial⟩,z_b ⟨yy,trivial⟩,trivial⟩) (zg ⟨za,za,za,za,za,za,za,za,(ze (zv rfl)),za,za,(zl ((zv rfl) _)),za,za,za,za,za,za,za,(ze (zf rfl)),za,za,za,za,za,(ze (zf rfl)),za,za,trivial⟩) ⟨e_fbv h2,
  e_fbv h6,
  e_bin (zb rfl) zd (zb rfl) (r_cmp (congrArg some e501)),
  e_fbv h502,
  e_iaL (E:=57) (z:=2) qb (by kernel_rfl) (by kernel_rfl) (zc rfl) (zb rfl) s505 s506 (zc rfl),
  e_ldG (by kernel_rfl) (by kernel_rfl) (zc rfl) rfl rfl rfl,
  e_bin (zb rfl) (zb rfl) (zb rfl) (fun W X Y=>by rw [← e507];exact r_sne W X Y),
  e_fbv h508,
  b_con (pan:=false) (qw 32 [32] v11 v510 e510 s511 s512),
  e_bin (zb rfl) zd (zb rfl) (r_ar (congrArg some e513)),
  b_con (pan:=false) (za4 IH v513 v510 v515 v516 e515 e516 s517 s518 s519),
  b_con (pan:=false) (qw 32 [32] v516 v521 e521 s522 s523),
  e_bin (zb rfl) zd (zb rfl) (r_ar (congrArg some e524)),
  b_con (pan:=false) (za4 IH v524 v521 v526 v527 e526 e527 s528 s529 s530),
  b_con (pan:=true) (zcG 41 [41] v527 v532 e532 s533 s534),
  trivial⟩ mixed hR trivial (fun _ _ _ hs=>by cases hs) (by kernel_rfl:zA (KN w0) Tryz.prog _ .no ⟨ntOf Tryz.prog 28,[900,901,902,903],[]⟩ (lp Tryz.prog 28 0) 5000 zC (.p (yh 27)) [.bx 0 32 [.k (.int .i64 0),.k (.int .i64 0),.k (.slice none 0 0)],.bx 900 9 [.h 26],.bx 901 53 [.q 26 [(900,0)]],.bx 902 51 [.q 23 [(900,0)]],.bx 903 41 [.q 28 [(900,0),(901,0),(902,0),(903,0)]]]=true) (fun β v W h=>(zc u10 β v W).2 (by rw [← q1];exact h)) (zipA.imp ⟨z_b ⟨yy,yy,yy,trivial⟩,z_b ⟨fun β v W h=>(zc u9 β v W).2 (by rw [← q0];exact h),trivial⟩,z_b ⟨yy,trivial⟩,z_b ⟨yy,trivial⟩,z_b ⟨yy,trivial⟩,trivial⟩)
theorem znX {w0:World} (d:Int) (s:(List UInt8)) (N:Nat) (v1:Bool) (v3:Bool) (v5:Bool) (v7:(List UInt8)) (v10:(List UInt8)) (v11:(List UInt8)) (IH:zz w0 N) (hL:LibT w0) (h2:v1=false) (h6:v5=false) (i:Int) (v501:Bool) (n503:Nat) (x504:(List UInt8×Int)) (v507:Bool) (v510:(List UInt8)) (v513:Int) (v515:Xp) (v516:(List UInt8)) (v521:(List UInt8)) (v524:Int) (v526:Int) (v527:(List UInt8)) (e501:(decide (i<(5:Int)))=v501) (e507:(!((x504.1:List UInt8) == v10))=v507) (e510:((takeC 32 v11).getD [])=v510) (e513:(IntKind.i64.wrap (d+(1:Int)))=v513) (e515:((readT v513 v510).2.1)=v515) (e516:((readT v513 v510).2.2)=v516) (e521:((takeC 32 v516).getD [])=v521) (e524:(IntKind.i64.wrap (d+(1:Int)))=v524) (e526:((readT v524 v521).1)=v526) (e527:((readT v524 v521).2.2)=v527) (h502:v501=true) (s505:i=(n503:Int)) (s506:opsL[n503]?=some x504) (h508:v507=false) (h509:(takeC 32 v11).isSome=true) (s511:([32]:List UInt8)=[32]) (s512:(takeC 32 v11).isSome=true) (h514:((readT v513 v510).1 == 0)=true) (s517:((readT v513 v510).1 == 0)=true) (s518:1≤v513∧(31 - v513).toNat≤N) (s519:IxAll w0 v510) (h520:(takeC 32 v516).isSome=true) (s522:([32]:List UInt8)=[32]) (s523:(takeC 32 v516).isSome=true) (h525:((readT v524 v521).1 == 0)=false) (s528:((readT v524 v521).1 == 0)=false) (s529:1≤v524∧(31 - v524).toNat≤N) (s530:IxAll w0 v521) (r2:(List UInt8)) (kk:Int) (F:Fact) (u0:F.c 0=pI d) (u1:F.c 1=pS s) (u2:F.c 2=pB v1) (u3:F.c 3=pB v3) (u4:F.c 4=pB v5) (u6:F.c 6=pS v10) (u7:F.c 7=pS v11) (u8:F.c 8=pLs cOp opsL) (u9:F.c 9=pS r2) (u10:F.c 10=pV (.iface 44 (.int .i64 kk))) (q0:(v527)=r2) (q1:(v526)=kk) (R:Frm) (hR:R.pm=⟨ntOf Tryz.prog 28,[900,901,902,903],[]⟩):Goes (KN w0) Tryz.prog R (lp Tryz.prog 28 0) (FL [pI d,pS s,pB v1,pB v3,pB v5,pS v7,pS v10,pS v11,pLs cOp opsL,pI i] []) zC (.p (yh 10)) F zbJ.out:=
 goes (x:=(.p (yh 23))) (y:=(.p (yh 10))) (Fb:=FL [pI d,pS s,pB v1,pB v3,pB v5,pS v7,pS v10,pS v11,pLs cOp opsL,pI i,pB v501,pP (cOp x504),pS x504.1,pI x504.2,pB v507,pS v510,pI v513,pI v515.op,pI v515.n,pLs cE v515.l,pS v516,pS v521,pI v524,pV (.iface 44 (.int .i64 v526)),pS v527] []) (stb:=zC) (tl:=[.bx 0 32 [.k (.int .i64 0),.k (.int .i64 0),.k (.slice none 0 0)],.bx 900 9 [.h 24],.bx 901 53 [.q 26 [(900,0)]],.bx 902 51 [.q 23 [(900,0)]],.bx 903 41 [.q 28 [(900,0),(901,0),(902,0),(903,0)]]]) (C:=((10002,.fb 2 false) ::
  (10004,.fb 4 false) ::
  (1005000,.bin .lss 3 (yh 9) (LF (.k (.int .i64 5))) (yh 10)) ::
  (10010,.fb 10 true) ::
  (1005001,.op (.ia 56) [yh 8,yh 9] [] (yh 11)) ::
  (1005002,.op (.ld 57) [yh 11] [] (.o (.g [.h 12,.h 13]))) ::
  (1005008,.bin .neq 9 (yh 12) (yh 6) (yh 14)) ::
  (10014,.fb 14 false) ::
  (1005010,.call ⟨23,[.o (.c (.k (.string ⟨#[32]⟩))),.o (.c (.p 900 0))],[.bx 900 9 [.h 7]],.t [],[.bx 900 9 [.h 15]]⟩) ::
  (1005013,.bin .add 3 (yh 0) (LF (.k (.int .i64 1))) (yh 16)) ::
  (1005014,.call ⟨28,[yh 16,.o (.c (.p 900 0)),.o (.c (.p 901 0)),.o (.c (.p 902 0)),.o (.c (.p 903 0))],[.bx 900 9 [.h 15],.bx 901 53 [.q 26 [(900,0)]],.bx 902 51 [.q 23 [(900,0)]],.bx 903 41 [.q 28 [(900,0),(901,0),(902,0),(903,0)]]],.o (.g [.h 17,.h 18,.h 19]),[.bx 900 9 [.h 20],.bx 901 53 [.q 26 [(900,0)]],.bx 902 51 [.q 23 [(900,0)]],.bx 903 41 [.q 28 [(900,0),(901,0),(902,0),(903,0)]]]⟩) ::
  (1005018,.call ⟨23,[.o (.c (.k (.string ⟨#[32]⟩))),.o (.c (.p 900 0))],[.bx 900 9 [.h 20]],.t [],[.bx 900 9 [.h 21]]⟩) ::
  (1005021,.bin .add 3 (yh 0) (LF (.k (.int .i64 1))) (yh 22)) ::
  (1005022,.pan ⟨28,[yh 22,.o (.c (.p 900 0)),.o (.c (.p 901 0)),.o (.c (.p 902 0)),.o (.c (.p 903 0))],[.bx 900 9 [.h 21],.bx 901 53 [.q 26 [(900,0)]],.bx 902 51 [.q 23 [(900,0)]],.bx 903 41 [.q 28 [(900,0),(901,0),(902,0),(903,0)]]],yh 23,[.bx 900 9 [.h 24],.bx 901 53 [.q 26 [(900,0)]],.bx 902 51 [.q 23 [(900,0)]],.bx 903 41 [.q 28 [(900,0),(901,0),(902,0),(903,0)]]]⟩) ::
  []:List (Nat×Ent))) (H:=.no) 5000 (zipA.imp ⟨z_c yy,z_c yy,z_c yy,z_c yy,z_c yy,z_c yy,z_c yy,z_c yy,z_c yy,z_c yy,z_c yy,z_c yy,z_c yy,z_c yy,z_c yy,z_c yy,z_c yy,z_c yy,z_b ⟨yy,yy,yy,trivial⟩,z_b ⟨yy,trivial⟩,z_b ⟨yy,trivial⟩,z_b ⟨yy,trivial⟩,z_b ⟨yy,trivial⟩,trivial⟩) (zg ⟨za,za,za,za,za,za,za,za,(ze (zv rfl)),za,za,(zl ((zv rfl) _)),za,za,za,za,za,za,za,(ze (zf rfl)),za,za,za,za,za,trivial⟩) ⟨e_fbv h2,
  e_fbv h6,
  e_bin (zb rfl) zd (zb rfl) (r_cmp (congrArg some e501)),
  e_fbv h502,
  e_iaL (E:=57) (z:=2) qb (by kernel_rfl) (by kernel_rfl) (zc rfl) (zb rfl) s505 s506 (zc rfl),
  e_ldG (by kernel_rfl) (by kernel_rfl) (zc rfl) rfl rfl rfl,
  e_bin (zb rfl) (zb rfl) (zb rfl) (fun W X Y=>by rw [← e507];exact r_sne W X Y),
  e_fbv h508,
  b_con (pan:=false) (qw 32 [32] v11 v510 e510 s511 s512),
  e_bin (zb rfl) zd (zb rfl) (r_ar (congrArg some e513)),
  b_con (pan:=false) (za4 IH v513 v510 v515 v516 e515 e516 s517 s518 s519),
  b_con (pan:=false) (qw 32 [32] v516 v521 e521 s522 s523),
  e_bin (zb rfl) zd (zb rfl) (r_ar (congrArg some e524)),
  b_con (pan:=true) (zem IH v524 v521 v526 v527 e526 e527 s528 s529 s530),
  trivial⟩ mixed hR trivial (fun _ _ _ hs=>by cases hs) (by kernel_rfl:zA (KN w0) Tryz.prog _ .no ⟨ntOf Tryz.prog 28,[900,901,902,903],[]⟩ (lp Tryz.prog 28 0) 5000 zC (.p (yh 23)) [.bx 0 32 [.k (.int .i64 0),.k (.int .i64 0),.k (.slice none 0 0)],.bx 900 9 [.h 24],.bx 901 53 [.q 26 [(900,0)]],.bx 902 51 [.q 23 [(900,0)]],.bx 903 41 [.q 28 [(900,0),(901,0),(902,0),(903,0)]]]=true) (fun β v W h=>(zc u10 β v W).2 (by rw [← q1];exact h)) (zipA.imp ⟨z_b ⟨yy,yy,yy,trivial⟩,z_b ⟨fun β v W h=>(zc u9 β v W).2 (by rw [← q0];exact h),trivial⟩,z_b ⟨yy,trivial⟩,z_b ⟨yy,trivial⟩,z_b ⟨yy,trivial⟩,trivial⟩)
theorem znY {w0:World} (d:Int) (s:(List UInt8)) (N:Nat) (v1:Bool) (v3:Bool) (v5:Bool) (v7:(List UInt8)) (v10:(List UInt8)) (v11:(List UInt8)) (IH:zz w0 N) (hL:LibT w0) (h2:v1=false) (h6:v5=false) (i:Int) (v501:Bool) (n503:Nat) (x504:(List UInt8×Int)) (v507:Bool) (v510:(List UInt8)) (v513:Int) (v515:Xp) (v516:(List UInt8)) (v521:Int) (e501:(decide (i<(5:Int)))=v501) (e507:(!((x504.1:List UInt8) == v10))=v507) (e510:((takeC 32 v11).getD [])=v510) (e513:(IntKind.i64.wrap (d+(1:Int)))=v513) (e515:((readT v513 v510).2.1)=v515) (e516:((readT v513 v510).2.2)=v516) (e521:((4:Int))=v521) (h502:v501=true) (s505:i=(n503:Int)) (s506:opsL[n503]?=some x504) (h508:v507=false) (h509:(takeC 32 v11).isSome=true) (s511:([32]:List UInt8)=[32]) (s512:(takeC 32 v11).isSome=true) (h514:((readT v513 v510).1 == 0)=true) (s517:((readT v513 v510).1 == 0)=true) (s518:1≤v513∧(31 - v513).toNat≤N) (s519:IxAll w0 v510) (h520:(takeC 32 v516).isSome=false) (s522:([32]:List UInt8)=[32]) (s523:(takeC 32 v516).isSome=false) (r2:(List UInt8)) (kk:Int) (F:Fact) (u0:F.c 0=pI d) (u1:F.c 1=pS s) (u2:F.c 2=pB v1) (u3:F.c 3=pB v3) (u4:F.c 4=pB v5) (u6:F.c 6=pS v10) (u7:F.c 7=pS v11) (u8:F.c 8=pLs cOp opsL) (u9:F.c 9=pS r2) (u10:F.c 10=pV (.iface 44 (.int .i64 kk))) (q0:(v516)=r2) (q1:(v521)=kk) (R:Frm) (hR:R.pm=⟨ntOf Tryz.prog 28,[900,901,902,903],[]⟩):Goes (KN w0) Tryz.prog R (lp Tryz.prog 28 0) (FL [pI d,pS s,pB v1,pB v3,pB v5,pS v7,pS v10,pS v11,pLs cOp opsL,pI i] []) zC (.p (yh 10)) F zbJ.out:=
 goes (x:=(.p (yh 21))) (y:=(.p (yh 10))) (Fb:=FL [pI d,pS s,pB v1,pB v3,pB v5,pS v7,pS v10,pS v11,pLs cOp opsL,pI i,pB v501,pP (cOp x504),pS x504.1,pI x504.2,pB v507,pS v510,pI v513,pI v515.op,pI v515.n,pLs cE v515.l,pS v516,pV (.iface 44 (.int .i64 v521))] []) (stb:=zC) (tl:=[.bx 0 32 [.k (.int .i64 0),.k (.int .i64 0),.k (.slice none 0 0)],.bx 900 9 [.h 20],.bx 901 53 [.q 26 [(900,0)]],.bx 902 51 [.q 23 [(900,0)]],.bx 903 41 [.q 28 [(900,0),(901,0),(902,0),(903,0)]]]) (C:=((10002,.fb 2 false) ::
  (10004,.fb 4 false) ::
  (1005000,.bin .lss 3 (yh 9) (LF (.k (.int .i64 5))) (yh 10)) ::
  (10010,.fb 10 true) ::
  (1005001,.op (.ia 56) [yh 8,yh 9] [] (yh 11)) ::
  (1005002,.op (.ld 57) [yh 11] [] (.o (.g [.h 12,.h 13]))) ::
  (1005008,.bin .neq 9 (yh 12) (yh 6) (yh 14)) ::
  (10014,.fb 14 false) ::
  (1005010,.call ⟨23,[.o (.c (.k (.string ⟨#[32]⟩))),.o (.c (.p 900 0))],[.bx 900 9 [.h 7]],.t [],[.bx 900 9 [.h 15]]⟩) ::
  (1005013,.bin .add 3 (yh 0) (LF (.k (.int .i64 1))) (yh 16)) ::
  (1005014,.call ⟨28,[yh 16,.o (.c (.p 900 0)),.o (.c (.p 901 0)),.o (.c (.p 902 0)),.o (.c (.p 903 0))],[.bx 900 9 [.h 15],.bx 901 53 [.q 26 [(900,0)]],.bx 902 51 [.q 23 [(900,0)]],.bx 903 41 [.q 28 [(900,0),(901,0),(902,0),(903,0)]]],.o (.g [.h 17,.h 18,.h 19]),[.bx 900 9 [.h 20],.bx 901 53 [.q 26 [(900,0)]],.bx 902 51 [.q 23 [(900,0)]],.bx 903 41 [.q 28 [(900,0),(901,0),(902,0),(903,0)]]]⟩) ::
  (1005018,.pan ⟨23,[.o (.c (.k (.string ⟨#[32]⟩))),.o (.c (.p 900 0))],[.bx 900 9 [.h 20]],yh 21,[.bx 900 9 [.h 20]]⟩) ::
  []:List (Nat×Ent))) (H:=.no) 5000 (zipA.imp ⟨z_c yy,z_c yy,z_c yy,z_c yy,z_c yy,z_c yy,z_c yy,z_c yy,z_c yy,z_c yy,z_c yy,z_c yy,z_c yy,z_c yy,z_c yy,z_c yy,z_c yy,z_c yy,z_b ⟨yy,yy,yy,trivial⟩,z_b ⟨yy,trivial⟩,z_b ⟨yy,trivial⟩,z_b ⟨yy,trivial⟩,z_b ⟨yy,trivial⟩,trivial⟩) (zg ⟨za,za,za,za,za,za,za,za,(ze (zv rfl)),za,za,(zl ((zv rfl) _)),za,za,za,za,za,za,za,(ze (zf rfl)),za,za,trivial⟩) ⟨e_fbv h2,
  e_fbv h6,
  e_bin (zb rfl) zd (zb rfl) (r_cmp (congrArg some e501)),
  e_fbv h502,
  e_iaL (E:=57) (z:=2) qb (by kernel_rfl) (by kernel_rfl) (zc rfl) (zb rfl) s505 s506 (zc rfl),
  e_ldG (by kernel_rfl) (by kernel_rfl) (zc rfl) rfl rfl rfl,
  e_bin (zb rfl) (zb rfl) (zb rfl) (fun W X Y=>by rw [← e507];exact r_sne W X Y),
  e_fbv h508,
  b_con (pan:=false) (qw 32 [32] v11 v510 e510 s511 s512),
  e_bin (zb rfl) zd (zb rfl) (r_ar (congrArg some e513)),
  b_con (pan:=false) (za4 IH v513 v510 v515 v516 e515 e516 s517 s518 s519),
  b_con (pan:=true) (zcG 32 [32] v516 v521 e521 s522 s523),
  trivial⟩ mixed hR trivial (fun _ _ _ hs=>by cases hs) (by kernel_rfl:zA (KN w0) Tryz.prog _ .no ⟨ntOf Tryz.prog 28,[900,901,902,903],[]⟩ (lp Tryz.prog 28 0) 5000 zC (.p (yh 21)) [.bx 0 32 [.k (.int .i64 0),.k (.int .i64 0),.k (.slice none 0 0)],.bx 900 9 [.h 20],.bx 901 53 [.q 26 [(900,0)]],.bx 902 51 [.q 23 [(900,0)]],.bx 903 41 [.q 28 [(900,0),(901,0),(902,0),(903,0)]]]=true) (fun β v W h=>(zc u10 β v W).2 (by rw [← q1];exact h)) (zipA.imp ⟨z_b ⟨yy,yy,yy,trivial⟩,z_b ⟨fun β v W h=>(zc u9 β v W).2 (by rw [← q0];exact h),trivial⟩,z_b ⟨yy,trivial⟩,z_b ⟨yy,trivial⟩,z_b ⟨yy,trivial⟩,trivial⟩)
theorem znZ {w0:World} (d:Int) (s:(List UInt8)) (N:Nat) (v1:Bool) (v3:Bool) (v5:Bool) (v7:(List UInt8)) (v10:(List UInt8)) (v11:(List UInt8)) (IH:zz w0 N) (hL:LibT w0) (h2:v1=false) (h6:v5=false) (i:Int) (v501:Bool) (n503:Nat) (x504:(List UInt8×Int)) (v507:Bool) (v510:(List UInt8)) (v513:Int) (v515:Int) (v516:(List UInt8)) (e501:(decide (i<(5:Int)))=v501) (e507:(!((x504.1:List UInt8) == v10))=v507) (e510:((takeC 32 v11).getD [])=v510) (e513:(IntKind.i64.wrap (d+(1:Int)))=v513) (e515:((readT v513 v510).1)=v515) (e516:((readT v513 v510).2.2)=v516) (h502:v501=true) (s505:i=(n503:Int)) (s506:opsL[n503]?=some x504) (h508:v507=false) (h509:(takeC 32 v11).isSome=true) (s511:([32]:List UInt8)=[32]) (s512:(takeC 32 v11).isSome=true) (h514:((readT v513 v510).1 == 0)=false) (s517:((readT v513 v510).1 == 0)=false) (s518:1≤v513∧(31 - v513).toNat≤N) (s519:IxAll w0 v510) (r2:(List UInt8)) (kk:Int) (F:Fact) (u0:F.c 0=pI d) (u1:F.c 1=pS s) (u2:F.c 2=pB v1) (u3:F.c 3=pB v3) (u4:F.c 4=pB v5) (u6:F.c 6=pS v10) (u7:F.c 7=pS v11) (u8:F.c 8=pLs cOp opsL) (u9:F.c 9=pS r2) (u10:F.c 10=pV (.iface 44 (.int .i64 kk))) (q0:(v516)=r2) (q1:(v515)=kk) (R:Frm) (hR:R.pm=⟨ntOf Tryz.prog 28,[900,901,902,903],[]⟩):Goes (KN w0) Tryz.prog R (lp Tryz.prog 28 0) (FL [pI d,pS s,pB v1,pB v3,pB v5,pS v7,pS v10,pS v11,pLs cOp opsL,pI i] []) zC (.p (yh 10)) F zbJ.out:=
 goes (x:=(.p (yh 17))) (y:=(.p (yh 10))) (Fb:=FL [pI d,pS s,pB v1,pB v3,pB v5,pS v7,pS v10,pS v11,pLs cOp opsL,pI i,pB v501,pP (cOp x504),pS x504.1,pI x504.2,pB v507,pS v510,pI v513,pV (.iface 44 (.int .i64 v515)),pS v516] []) (stb:=zC) (tl:=[.bx 0 32 [.k (.int .i64 0),.k (.int .i64 0),.k (.slice none 0 0)],.bx 900 9 [.h 18],.bx 901 53 [.q 26 [(900,0)]],.bx 902 51 [.q 23 [(900,0)]],.bx 903 41 [.q 28 [(900,0),(901,0),(902,0),(903,0)]]]) (C:=((10002,.fb 2 false) ::
  (10004,.fb 4 false) ::
  (1005000,.bin .lss 3 (yh 9) (LF (.k (.int .i64 5))) (yh 10)) ::
  (10010,.fb 10 true) ::
  (1005001,.op (.ia 56) [yh 8,yh 9] [] (yh 11)) ::
  (1005002,.op (.ld 57) [yh 11] [] (.o (.g [.h 12,.h 13]))) ::
  (1005008,.bin .neq 9 (yh 12) (yh 6) (yh 14)) ::
  (10014,.fb 14 false) ::
  (1005010,.call ⟨23,[.o (.c (.k (.string ⟨#[32]⟩))),.o (.c (.p 900 0))],[.bx 900 9 [.h 7]],.t [],[.bx 900 9 [.h 15]]⟩) ::
  (1005013,.bin .add 3 (yh 0) (LF (.k (.int .i64 1))) (yh 16)) ::
  (1005014,.pan ⟨28,[yh 16,.o (.c (.p 900 0)),.o (.c (.p 901 0)),.o (.c (.p 902 0)),.o (.c (.p 903 0))],[.bx 900 9 [.h 15],.bx 901 53 [.q 26 [(900,0)]],.bx 902 51 [.q 23 [(900,0)]],.bx 903 41 [.q 28 [(900,0),(901,0),(902,0),(903,0)]]],yh 17,[.bx 900 9 [.h 18],.bx 901 53 [.q 26 [(900,0)]],.bx 902 51 [.q 23 [(900,0)]],.bx 903 41 [.q 28 [(900,0),(901,0),(902,0),(903,0)]]]⟩) ::
  []:List (Nat×Ent))) (H:=.no) 5000 (zipA.imp ⟨z_c yy,z_c yy,z_c yy,z_c yy,z_c yy,z_c yy,z_c yy,z_c yy,z_c yy,z_c yy,z_c yy,z_c yy,z_c yy,z_c yy,z_c yy,z_c yy,z_c yy,z_c yy,z_b ⟨yy,yy,yy,trivial⟩,z_b ⟨yy,trivial⟩,z_b ⟨yy,trivial⟩,z_b ⟨yy,trivial⟩,z_b ⟨yy,trivial⟩,trivial⟩) (zg ⟨za,za,za,za,za,za,za,za,(ze (zv rfl)),za,za,(zl ((zv rfl) _)),za,za,za,za,za,za,za,trivial⟩) ⟨e_fbv h2,
  e_fbv h6,
  e_bin (zb rfl) zd (zb rfl) (r_cmp (congrArg some e501)),
  e_fbv h502,
  e_iaL (E:=57) (z:=2) qb (by kernel_rfl) (by kernel_rfl) (zc rfl) (zb rfl) s505 s506 (zc rfl),
  e_ldG (by kernel_rfl) (by kernel_rfl) (zc rfl) rfl rfl rfl,
  e_bin (zb rfl) (zb rfl) (zb rfl) (fun W X Y=>by rw [← e507];exact r_sne W X Y),
  e_fbv h508,
  b_con (pan:=false) (qw 32 [32] v11 v510 e510 s511 s512),
  e_bin (zb rfl) zd (zb rfl) (r_ar (congrArg some e513)),
  b_con (pan:=true) (zem IH v513 v510 v515 v516 e515 e516 s517 s518 s519),
  trivial⟩ mixed hR trivial (fun _ _ _ hs=>by cases hs) (by kernel_rfl:zA (KN w0) Tryz.prog _ .no ⟨ntOf Tryz.prog 28,[900,901,902,903],[]⟩ (lp Tryz.prog 28 0) 5000 zC (.p (yh 17)) [.bx 0 32 [.k (.int .i64 0),.k (.int .i64 0),.k (.slice none 0 0)],.bx 900 9 [.h 18],.bx 901 53 [.q 26 [(900,0)]],.bx 902 51 [.q 23 [(900,0)]],.bx 903 41 [.q 28 [(900,0),(901,0),(902,0),(903,0)]]]=true) (fun β v W h=>(zc u10 β v W).2 (by rw [← q1];exact h)) (zipA.imp ⟨z_b ⟨yy,yy,yy,trivial⟩,z_b ⟨fun β v W h=>(zc u9 β v W).2 (by rw [← q0];exact h),trivial⟩,z_b ⟨yy,trivial⟩,z_b ⟨yy,trivial⟩,z_b ⟨yy,trivial⟩,trivial⟩)
theorem zn0 {w0:World} (d:Int) (s:(List UInt8)) (N:Nat) (v1:Bool) (v3:Bool) (v5:Bool) (v7:(List UInt8)) (v10:(List UInt8)) (v11:(List UInt8)) (IH:zz w0 N) (hL:LibT w0) (h2:v1=false) (h6:v5=false) (i:Int) (v501:Bool) (n503:Nat) (x504:(List UInt8×Int)) (v507:Bool) (v510:Int) (e501:(decide (i<(5:Int)))=v501) (e507:(!((x504.1:List UInt8) == v10))=v507) (e510:((4:Int))=v510) (h502:v501=true) (s505:i=(n503:Int)) (s506:opsL[n503]?=some x504) (h508:v507=false) (h509:(takeC 32 v11).isSome=false) (s511:([32]:List UInt8)=[32]) (s512:(takeC 32 v11).isSome=false) (r2:(List UInt8)) (kk:Int) (F:Fact) (u0:F.c 0=pI d) (u1:F.c 1=pS s) (u2:F.c 2=pB v1) (u3:F.c 3=pB v3) (u4:F.c 4=pB v5) (u6:F.c 6=pS v10) (u7:F.c 7=pS v11) (u8:F.c 8=pLs cOp opsL) (u9:F.c 9=pS r2) (u10:F.c 10=pV (.iface 44 (.int .i64 kk))) (q0:(v11)=r2) (q1:(v510)=kk) (R:Frm) (hR:R.pm=⟨ntOf Tryz.prog 28,[900,901,902,903],[]⟩):Goes (KN w0) Tryz.prog R (lp Tryz.prog 28 0) (FL [pI d,pS s,pB v1,pB v3,pB v5,pS v7,pS v10,pS v11,pLs cOp opsL,pI i] []) zC (.p (yh 10)) F zbJ.out:=
 goes (x:=(.p (yh 15))) (y:=(.p (yh 10))) (Fb:=FL [pI d,pS s,pB v1,pB v3,pB v5,pS v7,pS v10,pS v11,pLs cOp opsL,pI i,pB v501,pP (cOp x504),pS x504.1,pI x504.2,pB v507,pV (.iface 44 (.int .i64 v510))] []) (stb:=zC) (tl:=[.bx 0 32 [.k (.int .i64 0),.k (.int .i64 0),.k (.slice none 0 0)],.bx 900 9 [.h 7],.bx 901 53 [.q 26 [(900,0)]],.bx 902 51 [.q 23 [(900,0)]],.bx 903 41 [.q 28 [(900,0),(901,0),(902,0),(903,0)]]]) (C:=((10002,.fb 2 false) ::
  (10004,.fb 4 false) ::
  (1005000,.bin .lss 3 (yh 9) (LF (.k (.int .i64 5))) (yh 10)) ::
  (10010,.fb 10 true) ::
  (1005001,.op (.ia 56) [yh 8,yh 9] [] (yh 11)) ::
  (1005002,.op (.ld 57) [yh 11] [] (.o (.g [.h 12,.h 13]))) ::
  (1005008,.bin .neq 9 (yh 12) (yh 6) (yh 14)) ::
  (10014,.fb 14 false) ::
  (1005010,.pan ⟨23,[.o (.c (.k (.string ⟨#[32]⟩))),.o (.c (.p 900 0))],[.bx 900 9 [.h 7]],yh 15,[.bx 900 9 [.h 7]]⟩) ::
  []:List (Nat×Ent))) (H:=.no) 5000 (zipA.imp ⟨z_c yy,z_c yy,z_c yy,z_c yy,z_c yy,z_c yy,z_c yy,z_c yy,z_c yy,z_c yy,z_c yy,z_c yy,z_c yy,z_c yy,z_c yy,z_c yy,z_c yy,z_c yy,z_b ⟨yy,yy,yy,trivial⟩,z_b ⟨yy,trivial⟩,z_b ⟨yy,trivial⟩,z_b ⟨yy,trivial⟩,z_b ⟨yy,trivial⟩,trivial⟩) (zg ⟨za,za,za,za,za,za,za,za,(ze (zv rfl)),za,za,(zl ((zv rfl) _)),za,za,za,za,trivial⟩) ⟨e_fbv h2,
  e_fbv h6,
  e_bin (zb rfl) zd (zb rfl) (r_cmp (congrArg some e501)),
  e_fbv h502,
  e_iaL (E:=57) (z:=2) qb (by kernel_rfl) (by kernel_rfl) (zc rfl) (zb rfl) s505 s506 (zc rfl),
  e_ldG (by kernel_rfl) (by kernel_rfl) (zc rfl) rfl rfl rfl,
  e_bin (zb rfl) (zb rfl) (zb rfl) (fun W X Y=>by rw [← e507];exact r_sne W X Y),
  e_fbv h508,
  b_con (pan:=true) (zcG 32 [32] v11 v510 e510 s511 s512),
  trivial⟩ mixed hR trivial (fun _ _ _ hs=>by cases hs) (by kernel_rfl:zA (KN w0) Tryz.prog _ .no ⟨ntOf Tryz.prog 28,[900,901,902,903],[]⟩ (lp Tryz.prog 28 0) 5000 zC (.p (yh 15)) [.bx 0 32 [.k (.int .i64 0),.k (.int .i64 0),.k (.slice none 0 0)],.bx 900 9 [.h 7],.bx 901 53 [.q 26 [(900,0)]],.bx 902 51 [.q 23 [(900,0)]],.bx 903 41 [.q 28 [(900,0),(901,0),(902,0),(903,0)]]]=true) (fun β v W h=>(zc u10 β v W).2 (by rw [← q1];exact h)) (zipA.imp ⟨z_b ⟨yy,yy,yy,trivial⟩,z_b ⟨fun β v W h=>(zc u9 β v W).2 (by rw [← q0];exact h),trivial⟩,z_b ⟨yy,trivial⟩,z_b ⟨yy,trivial⟩,z_b ⟨yy,trivial⟩,trivial⟩)
def zpb {w0:World} (d:Int) (s:(List UInt8)) (N:Nat) (v1:Bool) (v3:Bool) (v5:Bool) (v7:(List UInt8)) (v10:(List UInt8)) (v11:(List UInt8)) (t:rd_A_T) (r2:(List UInt8)) (kk:Int):Prop:=(∃(v501:Bool),∃(n503:Nat),∃(x504:(List UInt8×Int)),∃(v507:Bool),∃(v510:(List UInt8)),∃(v513:Int),∃(v515:Xp),∃(v516:(List UInt8)),∃(v521:(List UInt8)),∃(v524:Int),∃(v526:Xp),∃(v527:(List UInt8)),∃(v532:Int),((decide (t.i<(5:Int)))=v501)∧((!((x504.1:List UInt8) == v10))=v507)∧(((takeC 32 v11).getD [])=v510)∧((IntKind.i64.wrap (d+(1:Int)))=v513)∧(((readT v513 v510).2.1)=v515)∧(((readT v513 v510).2.2)=v516)∧(((takeC 32 v516).getD [])=v521)∧((IntKind.i64.wrap (d+(1:Int)))=v524)∧(((readT v524 v521).2.1)=v526)∧(((readT v524 v521).2.2)=v527)∧(((4:Int))=v532)∧(v501=true)∧(t.i=(n503:Int))∧(opsL[n503]?=some x504)∧(v507=false)∧((takeC 32 v11).isSome=true)∧(([32]:List UInt8)=[32])∧((takeC 32 v11).isSome=true)∧(((readT v513 v510).1 == 0)=true)∧(((readT v513 v510).1 == 0)=true)∧(1≤v513∧(31 - v513).toNat≤N)∧(IxAll w0 v510)∧((takeC 32 v516).isSome=true)∧(([32]:List UInt8)=[32])∧((takeC 32 v516).isSome=true)∧(((readT v524 v521).1 == 0)=true)∧(((readT v524 v521).1 == 0)=true)∧(1≤v524∧(31 - v524).toNat≤N)∧(IxAll w0 v521)∧((takeC 41 v527).isSome=false)∧(([41]:List UInt8)=[41])∧((takeC 41 v527).isSome=false)∧((v527)=r2)∧((v532)=kk)∧True)∨(∃(v501:Bool),∃(n503:Nat),∃(x504:(List UInt8×Int)),∃(v507:Bool),∃(v510:(List UInt8)),∃(v513:Int),∃(v515:Xp),∃(v516:(List UInt8)),∃(v521:(List UInt8)),∃(v524:Int),∃(v526:Int),∃(v527:(List UInt8)),((decide (t.i<(5:Int)))=v501)∧((!((x504.1:List UInt8) == v10))=v507)∧(((takeC 32 v11).getD [])=v510)∧((IntKind.i64.wrap (d+(1:Int)))=v513)∧(((readT v513 v510).2.1)=v515)∧(((readT v513 v510).2.2)=v516)∧(((takeC 32 v516).getD [])=v521)∧((IntKind.i64.wrap (d+(1:Int)))=v524)∧(((readT v524 v521).1)=v526)∧(((readT v524 v521).2.2)=v527)∧(v501=true)∧(t.i=(n503:Int))∧(opsL[n503]?=some x504)∧(v507=false)∧((takeC 32 v11).isSome=true)∧(([32]:List UInt8)=[32])∧((takeC 32 v11).isSome=true)∧(((readT v513 v510).1 == 0)=true)∧(((readT v513 v510).1 == 0)=true)∧(1≤v513∧(31 - v513).toNat≤N)∧(IxAll w0 v510)∧((takeC 32 v516).isSome=true)∧(([32]:List UInt8)=[32])∧((takeC 32 v516).isSome=true)∧(((readT v524 v521).1 == 0)=false)∧(((readT v524 v521).1 == 0)=false)∧(1≤v524∧(31 - v524).toNat≤N)∧(IxAll w0 v521)∧((v527)=r2)∧((v526)=kk)∧True)∨(∃(v501:Bool),∃(n503:Nat),∃(x504:(List UInt8×Int)),∃(v507:Bool),∃(v510:(List UInt8)),∃(v513:Int),∃(v515:Xp),∃(v516:(List UInt8)),∃(v521:Int),((decide (t.i<(5:Int)))=v501)∧((!((x504.1:List UInt8) == v10))=v507)∧(((takeC 32 v11).getD [])=v510)∧((IntKind.i64.wrap (d+(1:Int)))=v513)∧(((readT v513 v510).2.1)=v515)∧(((readT v513 v510).2.2)=v516)∧(((4:Int))=v521)∧(v501=true)∧(t.i=(n503:Int))∧(opsL[n503]?=some x504)∧(v507=false)∧((takeC 32 v11).isSome=true)∧(([32]:List UInt8)=[32])∧((takeC 32 v11).isSome=true)∧(((readT v513 v510).1 == 0)=true)∧(((readT v513 v510).1 == 0)=true)∧(1≤v513∧(31 - v513).toNat≤N)∧(IxAll w0 v510)∧((takeC 32 v516).isSome=false)∧(([32]:List UInt8)=[32])∧((takeC 32 v516).isSome=false)∧((v516)=r2)∧((v521)=kk)∧True)∨(∃(v501:Bool),∃(n503:Nat),∃(x504:(List UInt8×Int)),∃(v507:Bool),∃(v510:(List UInt8)),∃(v513:Int),∃(v515:Int),∃(v516:(List UInt8)),((decide (t.i<(5:Int)))=v501)∧((!((x504.1:List UInt8) == v10))=v507)∧(((takeC 32 v11).getD [])=v510)∧((IntKind.i64.wrap (d+(1:Int)))=v513)∧(((readT v513 v510).1)=v515)∧(((readT v513 v510).2.2)=v516)∧(v501=true)∧(t.i=(n503:Int))∧(opsL[n503]?=some x504)∧(v507=false)∧((takeC 32 v11).isSome=true)∧(([32]:List UInt8)=[32])∧((takeC 32 v11).isSome=true)∧(((readT v513 v510).1 == 0)=false)∧(((readT v513 v510).1 == 0)=false)∧(1≤v513∧(31 - v513).toNat≤N)∧(IxAll w0 v510)∧((v516)=r2)∧((v515)=kk)∧True)∨(∃(v501:Bool),∃(n503:Nat),∃(x504:(List UInt8×Int)),∃(v507:Bool),∃(v510:Int),((decide (t.i<(5:Int)))=v501)∧((!((x504.1:List UInt8) == v10))=v507)∧(((4:Int))=v510)∧(v501=true)∧(t.i=(n503:Int))∧(opsL[n503]?=some x504)∧(v507=false)∧((takeC 32 v11).isSome=false)∧(([32]:List UInt8)=[32])∧((takeC 32 v11).isSome=false)∧((v11)=r2)∧((v510)=kk)∧True)
theorem zkn {w0:World} (d:Int) (s:(List UInt8)) (N:Nat) (v1:Bool) (v3:Bool) (v5:Bool) (v7:(List UInt8)) (v10:(List UInt8)) (v11:(List UInt8)) (IH:zz w0 N) (hL:LibT w0) (h2:v1=false) (h6:v5=false) (r2:(List UInt8)) (kk:Int) {F:Fact} (u0:F.c 0=pI d) (u1:F.c 1=pS s) (u2:F.c 2=pB v1) (u3:F.c 3=pB v3) (u4:F.c 4=pB v5) (u6:F.c 6=pS v10) (u7:F.c 7=pS v11) (u8:F.c 8=pLs cOp opsL) (u9:F.c 9=pS r2) (u10:F.c 10=pV (.iface 44 (.int .i64 kk))) (R:Frm) (hR:R.pm=⟨ntOf Tryz.prog 28,[900,901,902,903],[]⟩) (J:rd_A_T→Prop) (m:rd_A_T→Nat) (hJ:J { i:=(0:Int) }) (rounds:∀t,J t→zpb (w0:=w0) d s N v1 v3 v5 v7 v10 v11 t r2 kk∨∃t',zkk (w0:=w0) d s N v1 v3 v5 v7 v10 v11 t t'∧m t'<m t∧J t'):zi (KN w0) Tryz.prog F R zbJ (lp Tryz.prog 28 0):=by
 refine zB (T:=rd_A_T) (fun t=>FL [pI d,pS s,pB v1,pB v3,pB v5,pS v7,pS v10,pS v11,pLs cOp opsL,pI t.i] []) J m { i:=(0:Int) } zC hJ (zipA.imp ⟨z_c (fun β v W h=>(zc u0 β v W).1 h),z_c yy,z_c yy,z_c yy,z_c yy,z_c yy,z_c (fun β v W h=>(zc u6 β v W).1 h),z_c (fun β v W h=>(zc u0 β v W).1 h),z_c (fun β v W h=>(zc u2 β v W).1 h),z_c (fun β v W h=>(zc u1 β v W).1 h),z_c (fun β v W h=>(zc u3 β v W).1 h),z_c (fun β v W h=>(zc u4 β v W).1 h),z_c yy,z_c yy,z_c (fun β v W h=>(zc u6 β v W).1 h),z_c (fun β v W h=>(zc u8 β v W).1 h),z_c yy,z_c yy,z_b ⟨yy,yy,yy,trivial⟩,z_b ⟨fun β v W h=>(zc u7 β v W).1 h,trivial⟩,z_b ⟨yy,trivial⟩,z_b ⟨yy,trivial⟩,z_b ⟨yy,trivial⟩,trivial⟩) rfl fun t ht=>?_
 rcases rounds t ht with hz_ | ⟨t',hz_,hm_,hj_⟩
 ·refine .inl ?_
  rcases hz_ with ⟨v501,n503,x504,v507,v510,v513,v515,v516,v521,v524,v526,v527,v532,e501,e507,e510,e513,e515,e516,e521,e524,e526,e527,e532,h502,s505,s506,h508,h509,s511,s512,h514,s517,s518,s519,h520,s522,s523,h525,s528,s529,s530,h531,s533,s534,q0,q1,_⟩ | ⟨v501,n503,x504,v507,v510,v513,v515,v516,v521,v524,v526,v527,e501,e507,e510,e513,e515,e516,e521,e524,e526,e527,h502,s505,s506,h508,h509,s511,s512,h514,s517,s518,s519,h520,s522,s523,h525,s528,s529,s530,q0,q1,_⟩ | ⟨v501,n503,x504,v507,v510,v513,v515,v516,v521,e501,e507,e510,e513,e515,e516,e521,h502,s505,s506,h508,h509,s511,s512,h514,s517,s518,s519,h520,s522,s523,q0,q1,_⟩ | ⟨v501,n503,x504,v507,v510,v513,v515,v516,e501,e507,e510,e513,e515,e516,h502,s505,s506,h508,h509,s511,s512,h514,s517,s518,s519,q0,q1,_⟩ | ⟨v501,n503,x504,v507,v510,e501,e507,e510,h502,s505,s506,h508,h509,s511,s512,q0,q1,_⟩
  ·exact znW  d s N v1 v3 v5 v7 v10 v11 IH hL h2 h6 t.i v501 n503 x504 v507 v510 v513 v515 v516 v521 v524 v526 v527 v532 e501 e507 e510 e513 e515 e516 e521 e524 e526 e527 e532 h502 s505 s506 h508 h509 s511 s512 h514 s517 s518 s519 h520 s522 s523 h525 s528 s529 s530 h531 s533 s534 r2 kk F u0 u1 u2 u3 u4 u6 u7 u8 u9 u10 q0 q1 R hR
  ·exact znX  d s N v1 v3 v5 v7 v10 v11 IH hL h2 h6 t.i v501 n503 x504 v507 v510 v513 v515 v516 v521 v524 v526 v527 e501 e507 e510 e513 e515 e516 e521 e524 e526 e527 h502 s505 s506 h508 h509 s511 s512 h514 s517 s518 s519 h520 s522 s523 h525 s528 s529 s530 r2 kk F u0 u1 u2 u3 u4 u6 u7 u8 u9 u10 q0 q1 R hR
  ·exact znY  d s N v1 v3 v5 v7 v10 v11 IH hL h2 h6 t.i v501 n503 x504 v507 v510 v513 v515 v516 v521 e501 e507 e510 e513 e515 e516 e521 h502 s505 s506 h508 h509 s511 s512 h514 s517 s518 s519 h520 s522 s523 r2 kk F u0 u1 u2 u3 u4 u6 u7 u8 u9 u10 q0 q1 R hR
  ·exact znZ  d s N v1 v3 v5 v7 v10 v11 IH hL h2 h6 t.i v501 n503 x504 v507 v510 v513 v515 v516 e501 e507 e510 e513 e515 e516 h502 s505 s506 h508 h509 s511 s512 h514 s517 s518 s519 r2 kk F u0 u1 u2 u3 u4 u6 u7 u8 u9 u10 q0 q1 R hR
  ·exact zn0  d s N v1 v3 v5 v7 v10 v11 IH hL h2 h6 t.i v501 n503 x504 v507 v510 e501 e507 e510 h502 s505 s506 h508 h509 s511 s512 r2 kk F u0 u1 u2 u3 u4 u6 u7 u8 u9 u10 q0 q1 R hR
 ·refine .inr ⟨t',hm_,hj_,?_⟩
  rcases hz_ with ⟨v501,n503,x504,v507,v509,e501,e507,e509,h502,s505,s506,h508,q0,_⟩
  ·exact zgB  d s N v1 v3 v5 v7 v10 v11 IH hL h2 h6 t.i v501 n503 x504 v507 v509 e501 e507 e509 h502 s505 s506 h508 t'.i q0 R hR
theorem znV {w0:World} (d:Int) (s:(List UInt8)) (N:Nat) (v1:Bool) (v3:Bool) (v5:Bool) (v7:(List UInt8)) (v10:(List UInt8)) (v11:(List UInt8)) (IH:zz w0 N) (hL:LibT w0) (h2:v1=false) (h6:v5=false) (r2:(List UInt8)) (kk:Int) {F:Fact} (u0:F.c 0=pI d) (u1:F.c 1=pS s) (u2:F.c 2=pB v1) (u3:F.c 3=pB v3) (u4:F.c 4=pB v5) (u6:F.c 6=pS v10) (u7:F.c 7=pS v11) (u8:F.c 8=pLs cOp opsL) (u9:F.c 9=pS r2) (u10:F.c 10=pV (.iface 44 (.int .i64 kk))) (R:Frm) (hR:R.pm=⟨ntOf Tryz.prog 28,[900,901,902,903],[]⟩) (hI:IxAll w0 v11) (hd:1≤d∧d≤30∧(31 - d).toNat≤N+1) (o:Int) (hO:opOf v10=some o) (hA0:(argsT (readT (d+1)) o v11).1=kk) (hA2:(argsT (readT (d+1)) o v11).2.2=r2) (hk0:kk≠0):zi (KN w0) Tryz.prog F R zbJ (lp Tryz.prog 28 0):=by
 refine zkn  d s N v1 v3 v5 v7 v10 v11 IH hL h2 h6 r2 kk u0 u1 u2 u3 u4 u6 u7 u8 u9 u10 R hR (fun ⟨i⟩=>∃k:Nat,i=(k:Int)∧k≤5∧∀(j:Nat) (x:List UInt8×Int),j<k→opsL[j]?=some x→x.1≠v10) (fun ⟨i⟩=>(5 - i).toNat) ⟨0,rfl,Nat.zero_le _,fun j x h=>by omega⟩ fun t hJ=>?_
 obtain ⟨i⟩:=t
 dsimp only at hJ
 obtain ⟨k,hi,hk,hn⟩:=hJ
 obtain ⟨v501,e501⟩:∃v,(decide (i<(5:Int)))=v:=⟨_,rfl⟩
 cases h502:v501 with
 | true =>
  obtain ⟨n503,x504,s505,s506⟩:∃(n503:Nat) (x504:(List UInt8×Int)),i=(n503:Int)∧opsL[n503]?=some x504:=by (have dh502:=of_decide_eq_true (e501.trans h502);exact zke (by omega) hi)
  obtain ⟨v507,e507⟩:∃v,(!((x504.1:List UInt8) == v10))=v:=⟨_,rfl⟩
  cases h508:v507 with
  | true =>
   obtain ⟨v509,e509⟩:∃v,(IntKind.i64.wrap (i+(1:Int)))=v:=⟨_,rfl⟩
   refine .inr ⟨⟨v509⟩,⟨v501,n503,x504,v507,v509,e501,e507,e509,h502,s505,s506,h508,rfl,trivial⟩,?_,?_⟩
   all_goals (have dh502:=of_decide_eq_true (e501.trans h502);have x3:v509=((k+1:Nat):Int):=(by rw [← e509,hi,wri (by omega)];omega))
   ·show (5 - v509).toNat<(5 - i).toNat
    omega
   ·refine ⟨k+1,x3,by omega,fun j x hj hx=>?_⟩
    rcases Nat.lt_or_ge j k with h | h
    ·exact hn j x h hx
    ·obtain rfl:j=n503:=by omega
     rw [s506] at hx
     injection hx with hx
     subst hx
     have z:=e507.trans h508
     simpa using z
  | false =>
   cases h509:(takeC 32 v11).isSome with
   | true =>
    obtain ⟨v510,e510⟩:∃v,((takeC 32 v11).getD [])=v:=⟨_,rfl⟩
    have s511:([32]:List UInt8)=[32]:=by rfl
    have s512:(takeC 32 v11).isSome=true:=by assumption
    obtain ⟨v513,e513⟩:∃v,(IntKind.i64.wrap (d+(1:Int)))=v:=⟨_,rfl⟩
    cases h514:((readT v513 v510).1 == 0) with
    | true =>
     obtain ⟨v515,e515⟩:∃v,((readT v513 v510).2.1)=v:=⟨_,rfl⟩
     obtain ⟨v516,e516⟩:∃v,((readT v513 v510).2.2)=v:=⟨_,rfl⟩
     have s517:((readT v513 v510).1 == 0)=true:=by assumption
     have s518:1≤v513∧(31 - v513).toNat≤N:=by (have dh502:=of_decide_eq_true (e501.trans h502);have qv513:v513=d+1:=(by rw [← e513,wri (by omega)]);have ts512:=zn s512 e510;have ts517:=eq_of_beq s517;have fv515:=e515;have fv516:=e516;rw [qv513] at ts517 fv515 fv516;omega)
     have s519:IxAll w0 v510:=by exact hI.suf (zL (zn s512 e510))
     cases h520:(takeC 32 v516).isSome with
     | true =>
      obtain ⟨v521,e521⟩:∃v,((takeC 32 v516).getD [])=v:=⟨_,rfl⟩
      have s522:([32]:List UInt8)=[32]:=by rfl
      have s523:(takeC 32 v516).isSome=true:=by assumption
      obtain ⟨v524,e524⟩:∃v,(IntKind.i64.wrap (d+(1:Int)))=v:=⟨_,rfl⟩
      cases h525:((readT v524 v521).1 == 0) with
      | true =>
       obtain ⟨v526,e526⟩:∃v,((readT v524 v521).2.1)=v:=⟨_,rfl⟩
       obtain ⟨v527,e527⟩:∃v,((readT v524 v521).2.2)=v:=⟨_,rfl⟩
       have s528:((readT v524 v521).1 == 0)=true:=by assumption
       have s529:1≤v524∧(31 - v524).toNat≤N:=by (have dh502:=of_decide_eq_true (e501.trans h502);have qv513:v513=d+1:=(by rw [← e513,wri (by omega)]);have qv524:v524=d+1:=(by rw [← e524,wri (by omega)]);have ts512:=zn s512 e510;have ts517:=eq_of_beq s517;have fv515:=e515;have fv516:=e516;rw [qv513] at ts517 fv515 fv516;have ts523:=zn s523 e521;have ts528:=eq_of_beq s528;have fv526:=e526;have fv527:=e527;rw [qv524] at ts528 fv526 fv527;omega)
       have s530:IxAll w0 v521:=by exact s519.suf ((zL (zn s523 e521)).trans (e516 ▸ zaX v513 v510))
       cases h531:(takeC 41 v527).isSome with
       | true =>
        obtain ⟨v532,e532⟩:∃v,((takeC 41 v527).getD [])=v:=⟨_,rfl⟩
        have s533:([41]:List UInt8)=[41]:=by rfl
        have s534:(takeC 41 v527).isSome=true:=by assumption
        obtain ⟨v535,e535⟩:∃v,(([v515,v526]:List Xp))=v:=⟨_,rfl⟩
        exfalso
        have dh502:=of_decide_eq_true (e501.trans h502);have qv513:v513=d+1:=(by rw [← e513,wri (by omega)]);have qv524:v524=d+1:=(by rw [← e524,wri (by omega)]);have ts512:=zn s512 e510;have ts517:=eq_of_beq s517;have fv515:=e515;have fv516:=e516;rw [qv513] at ts517 fv515 fv516;have ts523:=zn s523 e521;have ts528:=eq_of_beq s528;have fv526:=e526;have fv527:=e527;rw [qv524] at ts528 fv526 fv527;have ts534:=zn s534 e532;have y1:x504.1=v10:=(by have z:=e507.trans h508;simpa using z);have y2:=zab s506;rw [y1,hO] at y2;injection y2 with y2;rw [y2] at hA0 hA2;simp only [argsT,ts512,fv515,fv516,ts517,ts523,fv526,fv527,ts528,ts534,ne_eq,not_true_eq_false,not_false_eq_true,if_false,if_true] at hA0 hA2;first | exact absurd hA0 (by decide) | exact hk0 hA0.symm | (exfalso;simp_all;done)
       | false =>
        obtain ⟨v532,e532⟩:∃v,((4:Int))=v:=⟨_,rfl⟩
        have s533:([41]:List UInt8)=[41]:=by rfl
        have s534:(takeC 41 v527).isSome=false:=by assumption
        refine .inl (Or.inl (⟨v501,n503,x504,v507,v510,v513,v515,v516,v521,v524,v526,v527,v532,e501,e507,e510,e513,e515,e516,e521,e524,e526,e527,e532,h502,s505,s506,h508,h509,s511,s512,h514,s517,s518,s519,h520,s522,s523,h525,s528,s529,s530,h531,s533,s534,?_,?_,trivial⟩))
        all_goals (have dh502:=of_decide_eq_true (e501.trans h502);have qv513:v513=d+1:=(by rw [← e513,wri (by omega)]);have qv524:v524=d+1:=(by rw [← e524,wri (by omega)]);have ts512:=zn s512 e510;have ts517:=eq_of_beq s517;have fv515:=e515;have fv516:=e516;rw [qv513] at ts517 fv515 fv516;have ts523:=zn s523 e521;have ts528:=eq_of_beq s528;have fv526:=e526;have fv527:=e527;rw [qv524] at ts528 fv526 fv527;have ts534:=zM s534;have y1:x504.1=v10:=(by have z:=e507.trans h508;simpa using z);have y2:=zab s506;rw [y1,hO] at y2;injection y2 with y2;rw [y2] at hA0 hA2;simp only [argsT,ts512,fv515,fv516,ts517,ts523,fv526,fv527,ts528,ts534,ne_eq,not_true_eq_false,not_false_eq_true,if_false,if_true] at hA0 hA2;simp_all)
      | false =>
       obtain ⟨v526,e526⟩:∃v,((readT v524 v521).1)=v:=⟨_,rfl⟩
       obtain ⟨v527,e527⟩:∃v,((readT v524 v521).2.2)=v:=⟨_,rfl⟩
       have s528:((readT v524 v521).1 == 0)=false:=by assumption
       have s529:1≤v524∧(31 - v524).toNat≤N:=by (have dh502:=of_decide_eq_true (e501.trans h502);have qv513:v513=d+1:=(by rw [← e513,wri (by omega)]);have qv524:v524=d+1:=(by rw [← e524,wri (by omega)]);have ts512:=zn s512 e510;have ts517:=eq_of_beq s517;have fv515:=e515;have fv516:=e516;rw [qv513] at ts517 fv515 fv516;have ts523:=zn s523 e521;have ts528:=beq_eq_false_iff_ne.1 s528;have fv526:=e526;have fv527:=e527;rw [qv524] at ts528 fv526 fv527;omega)
       have s530:IxAll w0 v521:=by exact s519.suf ((zL (zn s523 e521)).trans (e516 ▸ zaX v513 v510))
       refine .inl (Or.inr (Or.inl (⟨v501,n503,x504,v507,v510,v513,v515,v516,v521,v524,v526,v527,e501,e507,e510,e513,e515,e516,e521,e524,e526,e527,h502,s505,s506,h508,h509,s511,s512,h514,s517,s518,s519,h520,s522,s523,h525,s528,s529,s530,?_,?_,trivial⟩)))
       all_goals (have dh502:=of_decide_eq_true (e501.trans h502);have qv513:v513=d+1:=(by rw [← e513,wri (by omega)]);have qv524:v524=d+1:=(by rw [← e524,wri (by omega)]);have ts512:=zn s512 e510;have ts517:=eq_of_beq s517;have fv515:=e515;have fv516:=e516;rw [qv513] at ts517 fv515 fv516;have ts523:=zn s523 e521;have ts528:=beq_eq_false_iff_ne.1 s528;have fv526:=e526;have fv527:=e527;rw [qv524] at ts528 fv526 fv527;have y1:x504.1=v10:=(by have z:=e507.trans h508;simpa using z);have y2:=zab s506;rw [y1,hO] at y2;injection y2 with y2;rw [y2] at hA0 hA2;simp only [argsT,ts512,fv515,fv516,ts517,ts523,fv526,fv527,ts528,ne_eq,not_true_eq_false,not_false_eq_true,if_false,if_true] at hA0 hA2;simp_all)
     | false =>
      obtain ⟨v521,e521⟩:∃v,((4:Int))=v:=⟨_,rfl⟩
      have s522:([32]:List UInt8)=[32]:=by rfl
      have s523:(takeC 32 v516).isSome=false:=by assumption
      refine .inl (Or.inr (Or.inr (Or.inl (⟨v501,n503,x504,v507,v510,v513,v515,v516,v521,e501,e507,e510,e513,e515,e516,e521,h502,s505,s506,h508,h509,s511,s512,h514,s517,s518,s519,h520,s522,s523,?_,?_,trivial⟩))))
      all_goals (have dh502:=of_decide_eq_true (e501.trans h502);have qv513:v513=d+1:=(by rw [← e513,wri (by omega)]);have ts512:=zn s512 e510;have ts517:=eq_of_beq s517;have fv515:=e515;have fv516:=e516;rw [qv513] at ts517 fv515 fv516;have ts523:=zM s523;have y1:x504.1=v10:=(by have z:=e507.trans h508;simpa using z);have y2:=zab s506;rw [y1,hO] at y2;injection y2 with y2;rw [y2] at hA0 hA2;simp only [argsT,ts512,fv515,fv516,ts517,ts523,ne_eq,not_true_eq_false,not_false_eq_true,if_false,if_true] at hA0 hA2;simp_all)
    | false =>
     obtain ⟨v515,e515⟩:∃v,((readT v513 v510).1)=v:=⟨_,rfl⟩
     obtain ⟨v516,e516⟩:∃v,((readT v513 v510).2.2)=v:=⟨_,rfl⟩
     have s517:((readT v513 v510).1 == 0)=false:=by assumption
     have s518:1≤v513∧(31 - v513).toNat≤N:=by (have dh502:=of_decide_eq_true (e501.trans h502);have qv513:v513=d+1:=(by rw [← e513,wri (by omega)]);have ts512:=zn s512 e510;have ts517:=beq_eq_false_iff_ne.1 s517;have fv515:=e515;have fv516:=e516;rw [qv513] at ts517 fv515 fv516;omega)
     have s519:IxAll w0 v510:=by exact hI.suf (zL (zn s512 e510))
     refine .inl (Or.inr (Or.inr (Or.inr (Or.inl (⟨v501,n503,x504,v507,v510,v513,v515,v516,e501,e507,e510,e513,e515,e516,h502,s505,s506,h508,h509,s511,s512,h514,s517,s518,s519,?_,?_,trivial⟩)))))
     all_goals (have dh502:=of_decide_eq_true (e501.trans h502);have qv513:v513=d+1:=(by rw [← e513,wri (by omega)]);have ts512:=zn s512 e510;have ts517:=beq_eq_false_iff_ne.1 s517;have fv515:=e515;have fv516:=e516;rw [qv513] at ts517 fv515 fv516;have y1:x504.1=v10:=(by have z:=e507.trans h508;simpa using z);have y2:=zab s506;rw [y1,hO] at y2;injection y2 with y2;rw [y2] at hA0 hA2;simp only [argsT,ts512,fv515,fv516,ts517,ne_eq,not_true_eq_false,not_false_eq_true,if_false,if_true] at hA0 hA2;simp_all)
   | false =>
    obtain ⟨v510,e510⟩:∃v,((4:Int))=v:=⟨_,rfl⟩
    have s511:([32]:List UInt8)=[32]:=by rfl
    have s512:(takeC 32 v11).isSome=false:=by assumption
    refine .inl (Or.inr (Or.inr (Or.inr (Or.inr (⟨v501,n503,x504,v507,v510,e501,e507,e510,h502,s505,s506,h508,h509,s511,s512,?_,?_,trivial⟩)))))
    all_goals (have dh502:=of_decide_eq_true (e501.trans h502);have ts512:=zM s512;have y1:x504.1=v10:=(by have z:=e507.trans h508;simpa using z);have y2:=zab s506;rw [y1,hO] at y2;injection y2 with y2;rw [y2] at hA0 hA2;simp only [argsT,ts512,ne_eq,not_true_eq_false,not_false_eq_true,if_false,if_true] at hA0 hA2;simp_all)
 | false =>
  exfalso
  have dh502:=of_decide_eq_false (e501.trans h502)
  exact zkc hO (fun j x hj hx=>hn j x (by omega) hx)
theorem zlj {w0:World} (d:Int) (s:(List UInt8)) (N:Nat) (IH:zz w0 N) (hL:LibT w0) (v1:Bool) (v3:Int) (e1:(decide (d > (30:Int)))=v1) (e3:((2:Int))=v3) (h2:v1=true):BFun true (KN w0) Tryz.prog 28 [.o (.c (.d (pI d))),.o (.c (.p 0 0)),.o (.c (.p 1 0)),.o (.c (.p 2 0)),.o (.c (.p 3 0))] [(9,[.d (pS s)]),(53,[.q 26 [(0,0)]]),(51,[.q 23 [(0,0)]]),(41,[.q 28 [(0,0),(1,0),(2,0),(3,0)]])] (.o (.c (.d (pV (.iface 44 (.int .i64 v3)))))) [(9,[.d (pS s)]),(53,[.q 26 [(0,0)]]),(51,[.q 23 [(0,0)]]),(41,[.q 28 [(0,0),(1,0),(2,0),(3,0)]])] :=
 con_b (pan:=true) (qg (F:=FL [pI d,pS s,pB v1,pV (.iface 44 (.int .i64 v3))] []) (C:=[(1000002,.bin .gtr 3 (yh 0) (LF (.k (.int .i64 30))) (yh 2)),
  (10002,.fb 2 true),
  (1000003,.pan ⟨25,[.o (.c (.k (.int .i64 2)))],[],yh 3,[]⟩)]) (k:=⟨28,[yh 0,.o (.c (.p 900 0)),.o (.c (.p 901 0)),.o (.c (.p 902 0)),.o (.c (.p 903 0))],[.bx 900 9 [.h 1],.bx 901 53 [.q 26 [(900,0)]],.bx 902 51 [.q 23 [(900,0)]],.bx 903 41 [.q 28 [(900,0),(901,0),(902,0),(903,0)]]],yh 3,[.bx 900 9 [.h 1],.bx 901 53 [.q 26 [(900,0)]],.bx 902 51 [.q 23 [(900,0)]],.bx 903 41 [.q 28 [(900,0),(901,0),(902,0),(903,0)]]]⟩) ⟨[],[],0⟩ [] 0 (zg ⟨za,za,za,za,trivial⟩) ⟨e_bin (zb rfl) zd (zb rfl) (r_cmp (congrArg some e1)),
  e_fbv h2,
  b_con (pan:=true) (zaD (2:Int) v3 e3),
  trivial⟩ mixed trivial (fun _ _ _ _ _ hs=>by cases hs) (by kernel_rfl))
theorem zlk {w0:World} (d:Int) (s:(List UInt8)) (N:Nat) (IH:zz w0 N) (hL:LibT w0) (v1:Bool) (v3:Bool) (v5:Bool) (v7:(List UInt8)) (v8:(List UInt8)) (v10:(List UInt8)) (v11:Bool) (v15:Int) (e1:(decide (d > (30:Int)))=v1) (e3:((takeC 40 s).isSome)=v3) (e5:(!v3)=v5) (e7:(wordW s)=v7) (e8:(restW s)=v8) (e10:((takeC 36 v7).getD v7)=v10) (e11:((takeC 36 v7).isSome)=v11) (e15:((intW v10).getD 0)=v15) (h2:v1=false) (s4:([40]:List UInt8)=[40]) (h6:v5=true) (s9:IxAll w0 s) (s12:([36]:List UInt8)=[36]) (h13:v11=true) (h14:(intW v10).isSome=true) (s16:(intW v10).isSome=true) (s17:(v10:List UInt8).length<4294967281):BFun false (KN w0) Tryz.prog 28 [.o (.c (.d (pI d))),.o (.c (.p 0 0)),.o (.c (.p 1 0)),.o (.c (.p 2 0)),.o (.c (.p 3 0))] [(9,[.d (pS s)]),(53,[.q 26 [(0,0)]]),(51,[.q 23 [(0,0)]]),(41,[.q 28 [(0,0),(1,0),(2,0),(3,0)]])] (.o (.g [.d (pV (.int .i64 2)),.d (pI v15),.d (pV (.slice none 0 0))])) [(9,[.d (pS v8)]),(53,[.q 26 [(0,0)]]),(51,[.q 23 [(0,0)]]),(41,[.q 28 [(0,0),(1,0),(2,0),(3,0)]])] :=
 con_b (pan:=false) (zr (F:=FL [pI d,pS s,pB v1,pB v3,pB v5,pS v7,pS v8,pS v10,pB v11,pI v15] []) (C:=[(1000002,.bin .gtr 3 (yh 0) (LF (.k (.int .i64 30))) (yh 2)),
  (10002,.fb 2 false),
  (1000004,.call ⟨29,[yh 1,.o (.c (.k (.string ⟨#[40]⟩)))],[],yh 3,[]⟩),
  (1000005,.un .not (yh 3) (yh 4)),
  (10004,.fb 4 true),
  (1000007,.call ⟨26,[.o (.c (.p 900 0))],[.bx 900 9 [.h 1]],yh 5,[.bx 900 9 [.h 6]]⟩),
  (1000010,.call ⟨24,[yh 5,.o (.c (.k (.string ⟨#[36]⟩)))],[],.t [.c (.h 7),.c (.h 8)],[]⟩),
  (10008,.fb 8 true),
  (1000018,.call ⟨30,[yh 7],[],yh 9,[]⟩)]) (k:=⟨28,[yh 0,.o (.c (.p 900 0)),.o (.c (.p 901 0)),.o (.c (.p 902 0)),.o (.c (.p 903 0))],[.bx 900 9 [.h 1],.bx 901 53 [.q 26 [(900,0)]],.bx 902 51 [.q 23 [(900,0)]],.bx 903 41 [.q 28 [(900,0),(901,0),(902,0),(903,0)]]],.o (.g [.k (.int .i64 2),.h 9,.k (.slice none 0 0)]),[.bx 900 9 [.h 6],.bx 901 53 [.q 26 [(900,0)]],.bx 902 51 [.q 23 [(900,0)]],.bx 903 41 [.q 28 [(900,0),(901,0),(902,0),(903,0)]]]⟩) 0 (zg ⟨za,za,za,za,za,za,za,za,za,za,trivial⟩) ⟨e_bin (zb rfl) zd (zb rfl) (r_cmp (congrArg some e1)),
  e_fbv h2,
  zh (zdz s [40] v3 e3 s4),
  e_un (zb rfl) (zb rfl) (fun W=>by rw [← e5];exact r_not W),
  e_fbv h6,
  b_con (pan:=false) (zdG s v7 v8 e7 e8 s9),
  zh (zh1 v7 [36] v10 v11 e10 e11 s12),
  e_fbv h13,
  b_con (pan:=false) (zfV hL v10 v15 e15 s16 s17),
  trivial⟩ mixed (by kernel_rfl))
theorem zll {w0:World} (d:Int) (s:(List UInt8)) (N:Nat) (IH:zz w0 N) (hL:LibT w0) (v1:Bool) (v3:Bool) (v5:Bool) (v7:(List UInt8)) (v8:(List UInt8)) (v10:(List UInt8)) (v11:Bool) (v15:Int) (e1:(decide (d > (30:Int)))=v1) (e3:((takeC 40 s).isSome)=v3) (e5:(!v3)=v5) (e7:(wordW s)=v7) (e8:(restW s)=v8) (e10:((takeC 36 v7).getD v7)=v10) (e11:((takeC 36 v7).isSome)=v11) (e15:((4:Int))=v15) (h2:v1=false) (s4:([40]:List UInt8)=[40]) (h6:v5=true) (s9:IxAll w0 s) (s12:([36]:List UInt8)=[36]) (h13:v11=true) (h14:(intW v10).isSome=false) (s16:(intW v10).isSome=false) (s17:(v10:List UInt8).length<4294967281):BFun true (KN w0) Tryz.prog 28 [.o (.c (.d (pI d))),.o (.c (.p 0 0)),.o (.c (.p 1 0)),.o (.c (.p 2 0)),.o (.c (.p 3 0))] [(9,[.d (pS s)]),(53,[.q 26 [(0,0)]]),(51,[.q 23 [(0,0)]]),(41,[.q 28 [(0,0),(1,0),(2,0),(3,0)]])] (.o (.c (.d (pV (.iface 44 (.int .i64 v15)))))) [(9,[.d (pS v8)]),(53,[.q 26 [(0,0)]]),(51,[.q 23 [(0,0)]]),(41,[.q 28 [(0,0),(1,0),(2,0),(3,0)]])] :=
 con_b (pan:=true) (qg (F:=FL [pI d,pS s,pB v1,pB v3,pB v5,pS v7,pS v8,pS v10,pB v11,pV (.iface 44 (.int .i64 v15))] []) (C:=[(1000002,.bin .gtr 3 (yh 0) (LF (.k (.int .i64 30))) (yh 2)),
  (10002,.fb 2 false),
  (1000004,.call ⟨29,[yh 1,.o (.c (.k (.string ⟨#[40]⟩)))],[],yh 3,[]⟩),
  (1000005,.un .not (yh 3) (yh 4)),
  (10004,.fb 4 true),
  (1000007,.call ⟨26,[.o (.c (.p 900 0))],[.bx 900 9 [.h 1]],yh 5,[.bx 900 9 [.h 6]]⟩),
  (1000010,.call ⟨24,[yh 5,.o (.c (.k (.string ⟨#[36]⟩)))],[],.t [.c (.h 7),.c (.h 8)],[]⟩),
  (10008,.fb 8 true),
  (1000018,.pan ⟨30,[yh 7],[],yh 9,[]⟩)]) (k:=⟨28,[yh 0,.o (.c (.p 900 0)),.o (.c (.p 901 0)),.o (.c (.p 902 0)),.o (.c (.p 903 0))],[.bx 900 9 [.h 1],.bx 901 53 [.q 26 [(900,0)]],.bx 902 51 [.q 23 [(900,0)]],.bx 903 41 [.q 28 [(900,0),(901,0),(902,0),(903,0)]]],yh 9,[.bx 900 9 [.h 6],.bx 901 53 [.q 26 [(900,0)]],.bx 902 51 [.q 23 [(900,0)]],.bx 903 41 [.q 28 [(900,0),(901,0),(902,0),(903,0)]]]⟩) ⟨[],[],0⟩ [] 0 (zg ⟨za,za,za,za,za,za,za,za,za,za,trivial⟩) ⟨e_bin (zb rfl) zd (zb rfl) (r_cmp (congrArg some e1)),
  e_fbv h2,
  zh (zdz s [40] v3 e3 s4),
  e_un (zb rfl) (zb rfl) (fun W=>by rw [← e5];exact r_not W),
  e_fbv h6,
  b_con (pan:=false) (zdG s v7 v8 e7 e8 s9),
  zh (zh1 v7 [36] v10 v11 e10 e11 s12),
  e_fbv h13,
  b_con (pan:=true) (zfU hL v10 v15 e15 s16 s17),
  trivial⟩ mixed trivial (fun _ _ _ _ _ hs=>by cases hs) (by kernel_rfl))
theorem zlm {w0:World} (d:Int) (s:(List UInt8)) (N:Nat) (IH:zz w0 N) (hL:LibT w0) (v1:Bool) (v3:Bool) (v5:Bool) (v7:(List UInt8)) (v8:(List UInt8)) (v10:(List UInt8)) (v11:Bool) (v15:Int) (e1:(decide (d > (30:Int)))=v1) (e3:((takeC 40 s).isSome)=v3) (e5:(!v3)=v5) (e7:(wordW s)=v7) (e8:(restW s)=v8) (e10:((takeC 36 v7).getD v7)=v10) (e11:((takeC 36 v7).isSome)=v11) (e15:((intW v7).getD 0)=v15) (h2:v1=false) (s4:([40]:List UInt8)=[40]) (h6:v5=true) (s9:IxAll w0 s) (s12:([36]:List UInt8)=[36]) (h13:v11=false) (h14:(intW v7).isSome=true) (s16:(intW v7).isSome=true) (s17:(v7:List UInt8).length<4294967281):BFun false (KN w0) Tryz.prog 28 [.o (.c (.d (pI d))),.o (.c (.p 0 0)),.o (.c (.p 1 0)),.o (.c (.p 2 0)),.o (.c (.p 3 0))] [(9,[.d (pS s)]),(53,[.q 26 [(0,0)]]),(51,[.q 23 [(0,0)]]),(41,[.q 28 [(0,0),(1,0),(2,0),(3,0)]])] (.o (.g [.d (pV (.int .i64 1)),.d (pI v15),.d (pV (.slice none 0 0))])) [(9,[.d (pS v8)]),(53,[.q 26 [(0,0)]]),(51,[.q 23 [(0,0)]]),(41,[.q 28 [(0,0),(1,0),(2,0),(3,0)]])] :=
 con_b (pan:=false) (zr (F:=FL [pI d,pS s,pB v1,pB v3,pB v5,pS v7,pS v8,pS v10,pB v11,pI v15] []) (C:=[(1000002,.bin .gtr 3 (yh 0) (LF (.k (.int .i64 30))) (yh 2)),
  (10002,.fb 2 false),
  (1000004,.call ⟨29,[yh 1,.o (.c (.k (.string ⟨#[40]⟩)))],[],yh 3,[]⟩),
  (1000005,.un .not (yh 3) (yh 4)),
  (10004,.fb 4 true),
  (1000007,.call ⟨26,[.o (.c (.p 900 0))],[.bx 900 9 [.h 1]],yh 5,[.bx 900 9 [.h 6]]⟩),
  (1000010,.call ⟨24,[yh 5,.o (.c (.k (.string ⟨#[36]⟩)))],[],.t [.c (.h 7),.c (.h 8)],[]⟩),
  (10008,.fb 8 false),
  (1000018,.call ⟨30,[yh 5],[],yh 9,[]⟩)]) (k:=⟨28,[yh 0,.o (.c (.p 900 0)),.o (.c (.p 901 0)),.o (.c (.p 902 0)),.o (.c (.p 903 0))],[.bx 900 9 [.h 1],.bx 901 53 [.q 26 [(900,0)]],.bx 902 51 [.q 23 [(900,0)]],.bx 903 41 [.q 28 [(900,0),(901,0),(902,0),(903,0)]]],.o (.g [.k (.int .i64 1),.h 9,.k (.slice none 0 0)]),[.bx 900 9 [.h 6],.bx 901 53 [.q 26 [(900,0)]],.bx 902 51 [.q 23 [(900,0)]],.bx 903 41 [.q 28 [(900,0),(901,0),(902,0),(903,0)]]]⟩) 0 (zg ⟨za,za,za,za,za,za,za,za,za,za,trivial⟩) ⟨e_bin (zb rfl) zd (zb rfl) (r_cmp (congrArg some e1)),
  e_fbv h2,
  zh (zdz s [40] v3 e3 s4),
  e_un (zb rfl) (zb rfl) (fun W=>by rw [← e5];exact r_not W),
  e_fbv h6,
  b_con (pan:=false) (zdG s v7 v8 e7 e8 s9),
  zh (zh1 v7 [36] v10 v11 e10 e11 s12),
  e_fbv h13,
  b_con (pan:=false) (zfV hL v7 v15 e15 s16 s17),
  trivial⟩ mixed (by kernel_rfl))
theorem zln {w0:World} (d:Int) (s:(List UInt8)) (N:Nat) (IH:zz w0 N) (hL:LibT w0) (v1:Bool) (v3:Bool) (v5:Bool) (v7:(List UInt8)) (v8:(List UInt8)) (v10:(List UInt8)) (v11:Bool) (v15:Int) (e1:(decide (d > (30:Int)))=v1) (e3:((takeC 40 s).isSome)=v3) (e5:(!v3)=v5) (e7:(wordW s)=v7) (e8:(restW s)=v8) (e10:((takeC 36 v7).getD v7)=v10) (e11:((takeC 36 v7).isSome)=v11) (e15:((4:Int))=v15) (h2:v1=false) (s4:([40]:List UInt8)=[40]) (h6:v5=true) (s9:IxAll w0 s) (s12:([36]:List UInt8)=[36]) (h13:v11=false) (h14:(intW v7).isSome=false) (s16:(intW v7).isSome=false) (s17:(v7:List UInt8).length<4294967281):BFun true (KN w0) Tryz.prog 28 [.o (.c (.d (pI d))),.o (.c (.p 0 0)),.o (.c (.p 1 0)),.o (.c (.p 2 0)),.o (.c (.p 3 0))] [(9,[.d (pS s)]),(53,[.q 26 [(0,0)]]),(51,[.q 23 [(0,0)]]),(41,[.q 28 [(0,0),(1,0),(2,0),(3,0)]])] (.o (.c (.d (pV (.iface 44 (.int .i64 v15)))))) [(9,[.d (pS v8)]),(53,[.q 26 [(0,0)]]),(51,[.q 23 [(0,0)]]),(41,[.q 28 [(0,0),(1,0),(2,0),(3,0)]])] :=
 con_b (pan:=true) (qg (F:=FL [pI d,pS s,pB v1,pB v3,pB v5,pS v7,pS v8,pS v10,pB v11,pV (.iface 44 (.int .i64 v15))] []) (C:=[(1000002,.bin .gtr 3 (yh 0) (LF (.k (.int .i64 30))) (yh 2)),
  (10002,.fb 2 false),
  (1000004,.call ⟨29,[yh 1,.o (.c (.k (.string ⟨#[40]⟩)))],[],yh 3,[]⟩),
  (1000005,.un .not (yh 3) (yh 4)),
  (10004,.fb 4 true),
  (1000007,.call ⟨26,[.o (.c (.p 900 0))],[.bx 900 9 [.h 1]],yh 5,[.bx 900 9 [.h 6]]⟩),
  (1000010,.call ⟨24,[yh 5,.o (.c (.k (.string ⟨#[36]⟩)))],[],.t [.c (.h 7),.c (.h 8)],[]⟩),
  (10008,.fb 8 false),
  (1000018,.pan ⟨30,[yh 5],[],yh 9,[]⟩)]) (k:=⟨28,[yh 0,.o (.c (.p 900 0)),.o (.c (.p 901 0)),.o (.c (.p 902 0)),.o (.c (.p 903 0))],[.bx 900 9 [.h 1],.bx 901 53 [.q 26 [(900,0)]],.bx 902 51 [.q 23 [(900,0)]],.bx 903 41 [.q 28 [(900,0),(901,0),(902,0),(903,0)]]],yh 9,[.bx 900 9 [.h 6],.bx 901 53 [.q 26 [(900,0)]],.bx 902 51 [.q 23 [(900,0)]],.bx 903 41 [.q 28 [(900,0),(901,0),(902,0),(903,0)]]]⟩) ⟨[],[],0⟩ [] 0 (zg ⟨za,za,za,za,za,za,za,za,za,za,trivial⟩) ⟨e_bin (zb rfl) zd (zb rfl) (r_cmp (congrArg some e1)),
  e_fbv h2,
  zh (zdz s [40] v3 e3 s4),
  e_un (zb rfl) (zb rfl) (fun W=>by rw [← e5];exact r_not W),
  e_fbv h6,
  b_con (pan:=false) (zdG s v7 v8 e7 e8 s9),
  zh (zh1 v7 [36] v10 v11 e10 e11 s12),
  e_fbv h13,
  b_con (pan:=true) (zfU hL v7 v15 e15 s16 s17),
  trivial⟩ mixed trivial (fun _ _ _ _ _ hs=>by cases hs) (by kernel_rfl))
theorem zlo {w0:World} (d:Int) (s:(List UInt8)) (N:Nat) (IH:zz w0 N) (hL:LibT w0) (v1:Bool) (v3:Bool) (v5:Bool) (v7:(List UInt8)) (v10:(List UInt8)) (v11:(List UInt8)) (r2:(List UInt8)) (kk:Int) (e1:(decide (d > (30:Int)))=v1) (e3:((takeC 40 s).isSome)=v3) (e5:(!v3)=v5) (e7:((takeC 40 s).getD [])=v7) (e10:(wordW v7)=v10) (e11:(restW v7)=v11) (h2:v1=false) (s4:([40]:List UInt8)=[40]) (h6:v5=false) (s8:([40]:List UInt8)=[40]) (s9:(takeC 40 s).isSome=true) (s12:IxAll w0 v7) (L_rd_C:∀R:Frm,R.pm=⟨ntOf Tryz.prog 28,[900,901,902,903],[]⟩→zi (KN w0) Tryz.prog (FL [pI d,pS s,pB v1,pB v3,pB v5,pS v7,pS v10,pS v11,pLs cOp opsL,pS r2,pV (.iface 44 (.int .i64 kk))] []) R zbJ (lp Tryz.prog 28 0)):BFun true (KN w0) Tryz.prog 28 [.o (.c (.d (pI d))),.o (.c (.p 0 0)),.o (.c (.p 1 0)),.o (.c (.p 2 0)),.o (.c (.p 3 0))] [(9,[.d (pS s)]),(53,[.q 26 [(0,0)]]),(51,[.q 23 [(0,0)]]),(41,[.q 28 [(0,0),(1,0),(2,0),(3,0)]])] (.o (.c (.d (pV (.iface 44 (.int .i64 kk)))))) [(9,[.d (pS r2)]),(53,[.q 26 [(0,0)]]),(51,[.q 23 [(0,0)]]),(41,[.q 28 [(0,0),(1,0),(2,0),(3,0)]])] :=
 con_b (pan:=true) (qg (F:=FL [pI d,pS s,pB v1,pB v3,pB v5,pS v7,pS v10,pS v11,pLs cOp opsL,pS r2,pV (.iface 44 (.int .i64 kk))] []) (C:=[(1000002,.bin .gtr 3 (yh 0) (LF (.k (.int .i64 30))) (yh 2)),
  (10002,.fb 2 false),
  (1000004,.call ⟨29,[yh 1,.o (.c (.k (.string ⟨#[40]⟩)))],[],yh 3,[]⟩),
  (1000005,.un .not (yh 3) (yh 4)),
  (10004,.fb 4 false),
  (1000007,.call ⟨23,[.o (.c (.k (.string ⟨#[40]⟩))),.o (.c (.p 900 0))],[.bx 900 9 [.h 1]],.t [],[.bx 900 9 [.h 5]]⟩),
  (1000009,.call ⟨26,[.o (.c (.p 900 0))],[.bx 900 9 [.h 5]],yh 6,[.bx 900 9 [.h 7]]⟩),
  (1000011,.op (.ld 56) [LF (.k (.pointer (some ⟨0,0,none⟩)))] [] (yh 8)),
  (1000012,.op (.len [56] 3) [yh 8] [] (LF (.k (.int .i64 5))))]) (k:=⟨28,[yh 0,.o (.c (.p 900 0)),.o (.c (.p 901 0)),.o (.c (.p 902 0)),.o (.c (.p 903 0))],[.bx 900 9 [.h 1],.bx 901 53 [.q 26 [(900,0)]],.bx 902 51 [.q 23 [(900,0)]],.bx 903 41 [.q 28 [(900,0),(901,0),(902,0),(903,0)]]],yh 10,[.bx 900 9 [.h 9],.bx 901 53 [.q 26 [(900,0)]],.bx 902 51 [.q 23 [(900,0)]],.bx 903 41 [.q 28 [(900,0),(901,0),(902,0),(903,0)]]]⟩) ⟨[zbJ],[],0⟩ [] 0 (zg ⟨za,za,za,za,za,za,za,za,(ze (zv rfl)),za,za,trivial⟩) ⟨e_bin (zb rfl) zd (zb rfl) (r_cmp (congrArg some e1)),
  e_fbv h2,
  zh (zdz s [40] v3 e3 s4),
  e_un (zb rfl) (zb rfl) (fun W=>by rw [← e5];exact r_not W),
  e_fbv h6,
  b_con (pan:=false) (qw 40 [40] s v7 e7 s8 s9),
  b_con (pan:=false) (zdG v7 v10 v11 e10 e11 s12),
  zdc hL (zc rfl),
  zF (E:=57) (by kernel_rfl) (zc rfl) zd,
  trivial⟩ mixed trivial (fun R hR p hp s hs=>by
 have hl:zH (qu Tryz.prog 28)=[(12,lp Tryz.prog 28 0)]:=by kernel_rfl
 rw [hl] at hp
 simp only [List.mem_cons,List.not_mem_nil,or_false] at hp
 rcases hp with rfl
 ·have e:s=zbJ:=(Option.some.inj hs).symm
  subst e;exact L_rd_C R hR) (by kernel_rfl))
theorem zlp {w0:World} (d:Int) (s:(List UInt8)) (N:Nat) (IH:zz w0 N) (hL:LibT w0) (v1:Bool) (v3:Bool) (v5:Bool) (v7:(List UInt8)) (v10:(List UInt8)) (v11:(List UInt8)) (r2:(List UInt8)) (xr:Xp) (e1:(decide (d > (30:Int)))=v1) (e3:((takeC 40 s).isSome)=v3) (e5:(!v3)=v5) (e7:((takeC 40 s).getD [])=v7) (e10:(wordW v7)=v10) (e11:(restW v7)=v11) (h2:v1=false) (s4:([40]:List UInt8)=[40]) (h6:v5=false) (s8:([40]:List UInt8)=[40]) (s9:(takeC 40 s).isSome=true) (s12:IxAll w0 v7) (L_rd_B:∀R:Frm,R.pm=⟨ntOf Tryz.prog 28,[900,901,902,903],[]⟩→zi (KN w0) Tryz.prog (FL [pI d,pS s,pB v1,pB v3,pB v5,pS v7,pS v10,pS v11,pLs cOp opsL,pS r2,pI xr.op,pI xr.n,pLs cE xr.l] []) R zd9 (lp Tryz.prog 28 0)):BFun false (KN w0) Tryz.prog 28 [.o (.c (.d (pI d))),.o (.c (.p 0 0)),.o (.c (.p 1 0)),.o (.c (.p 2 0)),.o (.c (.p 3 0))] [(9,[.d (pS s)]),(53,[.q 26 [(0,0)]]),(51,[.q 23 [(0,0)]]),(41,[.q 28 [(0,0),(1,0),(2,0),(3,0)]])] (.o (.g [.d (pI xr.op),.d (pI xr.n),.d (pLs cE xr.l)])) [(9,[.d (pS r2)]),(53,[.q 26 [(0,0)]]),(51,[.q 23 [(0,0)]]),(41,[.q 28 [(0,0),(1,0),(2,0),(3,0)]])] :=
 con_b (pan:=false) (zS (F:=FL [pI d,pS s,pB v1,pB v3,pB v5,pS v7,pS v10,pS v11,pLs cOp opsL,pS r2,pI xr.op,pI xr.n,pLs cE xr.l] []) (C:=[(1000002,.bin .gtr 3 (yh 0) (LF (.k (.int .i64 30))) (yh 2)),
  (10002,.fb 2 false),
  (1000004,.call ⟨29,[yh 1,.o (.c (.k (.string ⟨#[40]⟩)))],[],yh 3,[]⟩),
  (1000005,.un .not (yh 3) (yh 4)),
  (10004,.fb 4 false),
  (1000007,.call ⟨23,[.o (.c (.k (.string ⟨#[40]⟩))),.o (.c (.p 900 0))],[.bx 900 9 [.h 1]],.t [],[.bx 900 9 [.h 5]]⟩),
  (1000009,.call ⟨26,[.o (.c (.p 900 0))],[.bx 900 9 [.h 5]],yh 6,[.bx 900 9 [.h 7]]⟩),
  (1000011,.op (.ld 56) [LF (.k (.pointer (some ⟨0,0,none⟩)))] [] (yh 8)),
  (1000012,.op (.len [56] 3) [yh 8] [] (LF (.k (.int .i64 5))))]) (k:=⟨28,[yh 0,.o (.c (.p 900 0)),.o (.c (.p 901 0)),.o (.c (.p 902 0)),.o (.c (.p 903 0))],[.bx 900 9 [.h 1],.bx 901 53 [.q 26 [(900,0)]],.bx 902 51 [.q 23 [(900,0)]],.bx 903 41 [.q 28 [(900,0),(901,0),(902,0),(903,0)]]],.o (.g [.h 10,.h 11,.h 12]),[.bx 900 9 [.h 9],.bx 901 53 [.q 26 [(900,0)]],.bx 902 51 [.q 23 [(900,0)]],.bx 903 41 [.q 28 [(900,0),(901,0),(902,0),(903,0)]]]⟩) ⟨[zd9],[],0⟩ [] 0 (zg ⟨za,za,za,za,za,za,za,za,(ze (zv rfl)),za,za,za,(ze (zf rfl)),trivial⟩) ⟨e_bin (zb rfl) zd (zb rfl) (r_cmp (congrArg some e1)),
  e_fbv h2,
  zh (zdz s [40] v3 e3 s4),
  e_un (zb rfl) (zb rfl) (fun W=>by rw [← e5];exact r_not W),
  e_fbv h6,
  b_con (pan:=false) (qw 40 [40] s v7 e7 s8 s9),
  b_con (pan:=false) (zdG v7 v10 v11 e10 e11 s12),
  zdc hL (zc rfl),
  zF (E:=57) (by kernel_rfl) (zc rfl) zd,
  trivial⟩ mixed trivial (fun R hR p hp s hs=>by
 have hl:zH (qu Tryz.prog 28)=[(12,lp Tryz.prog 28 0)]:=by kernel_rfl
 rw [hl] at hp
 simp only [List.mem_cons,List.not_mem_nil,or_false] at hp
 rcases hp with rfl
 ·have e:s=zd9:=(Option.some.inj hs).symm
  subst e;exact L_rd_B R hR) (by kernel_rfl))
theorem zlq {w0:World} (d:Int) (s:(List UInt8)) (N:Nat) (IH:zz w0 N) (hL:LibT w0) (v1:Bool) (v3:Bool) (v5:Bool) (v7:(List UInt8)) (v10:(List UInt8)) (v11:(List UInt8)) (v13:Int) (e1:(decide (d > (30:Int)))=v1) (e3:((takeC 40 s).isSome)=v3) (e5:(!v3)=v5) (e7:((takeC 40 s).getD [])=v7) (e10:(wordW v7)=v10) (e11:(restW v7)=v11) (e13:((4:Int))=v13) (h2:v1=false) (s4:([40]:List UInt8)=[40]) (h6:v5=false) (s8:([40]:List UInt8)=[40]) (s9:(takeC 40 s).isSome=true) (s12:IxAll w0 v7) (L_rd_A:∀R:Frm,R.pm=⟨ntOf Tryz.prog 28,[900,901,902,903],[]⟩→zi (KN w0) Tryz.prog (FL [pI d,pS s,pB v1,pB v3,pB v5,pS v7,pS v10,pS v11,pLs cOp opsL,pV (.iface 44 (.int .i64 v13))] []) R zd8 (lp Tryz.prog 28 0)):BFun true (KN w0) Tryz.prog 28 [.o (.c (.d (pI d))),.o (.c (.p 0 0)),.o (.c (.p 1 0)),.o (.c (.p 2 0)),.o (.c (.p 3 0))] [(9,[.d (pS s)]),(53,[.q 26 [(0,0)]]),(51,[.q 23 [(0,0)]]),(41,[.q 28 [(0,0),(1,0),(2,0),(3,0)]])] (.o (.c (.d (pV (.iface 44 (.int .i64 v13)))))) [(9,[.d (pS v11)]),(53,[.q 26 [(0,0)]]),(51,[.q 23 [(0,0)]]),(41,[.q 28 [(0,0),(1,0),(2,0),(3,0)]])] :=
 con_b (pan:=true) (qg (F:=FL [pI d,pS s,pB v1,pB v3,pB v5,pS v7,pS v10,pS v11,pLs cOp opsL,pV (.iface 44 (.int .i64 v13))] []) (C:=[(1000002,.bin .gtr 3 (yh 0) (LF (.k (.int .i64 30))) (yh 2)),
  (10002,.fb 2 false),
  (1000004,.call ⟨29,[yh 1,.o (.c (.k (.string ⟨#[40]⟩)))],[],yh 3,[]⟩),
  (1000005,.un .not (yh 3) (yh 4)),
  (10004,.fb 4 false),
  (1000007,.call ⟨23,[.o (.c (.k (.string ⟨#[40]⟩))),.o (.c (.p 900 0))],[.bx 900 9 [.h 1]],.t [],[.bx 900 9 [.h 5]]⟩),
  (1000009,.call ⟨26,[.o (.c (.p 900 0))],[.bx 900 9 [.h 5]],yh 6,[.bx 900 9 [.h 7]]⟩),
  (1000011,.op (.ld 56) [LF (.k (.pointer (some ⟨0,0,none⟩)))] [] (yh 8)),
  (1000012,.op (.len [56] 3) [yh 8] [] (LF (.k (.int .i64 5)))),
  (1001014,.pan ⟨25,[.o (.c (.k (.int .i64 4)))],[],yh 9,[]⟩)]) (k:=⟨28,[yh 0,.o (.c (.p 900 0)),.o (.c (.p 901 0)),.o (.c (.p 902 0)),.o (.c (.p 903 0))],[.bx 900 9 [.h 1],.bx 901 53 [.q 26 [(900,0)]],.bx 902 51 [.q 23 [(900,0)]],.bx 903 41 [.q 28 [(900,0),(901,0),(902,0),(903,0)]]],yh 9,[.bx 900 9 [.h 7],.bx 901 53 [.q 26 [(900,0)]],.bx 902 51 [.q 23 [(900,0)]],.bx 903 41 [.q 28 [(900,0),(901,0),(902,0),(903,0)]]]⟩) ⟨[zd8],[],0⟩ [] 0 (zg ⟨za,za,za,za,za,za,za,za,(ze (zv rfl)),za,trivial⟩) ⟨e_bin (zb rfl) zd (zb rfl) (r_cmp (congrArg some e1)),
  e_fbv h2,
  zh (zdz s [40] v3 e3 s4),
  e_un (zb rfl) (zb rfl) (fun W=>by rw [← e5];exact r_not W),
  e_fbv h6,
  b_con (pan:=false) (qw 40 [40] s v7 e7 s8 s9),
  b_con (pan:=false) (zdG v7 v10 v11 e10 e11 s12),
  zdc hL (zc rfl),
  zF (E:=57) (by kernel_rfl) (zc rfl) zd,
  b_con (pan:=true) (zaD (4:Int) v13 e13),
  trivial⟩ mixed trivial (fun R hR p hp s hs=>by
 have hl:zH (qu Tryz.prog 28)=[(12,lp Tryz.prog 28 0)]:=by kernel_rfl
 rw [hl] at hp
 simp only [List.mem_cons,List.not_mem_nil,or_false] at hp
 rcases hp with rfl
 ·have e:s=zd8:=(Option.some.inj hs).symm
  subst e;exact L_rd_A R hR) (by kernel_rfl))
theorem zg6 {w0:World} {N:Nat} (IH:zz w0 N) (hL:LibT w0) (d:Int) (s r:List UInt8) (hd:1≤d∧(31 - d).toNat≤N+1) (hI:IxAll w0 s) (hr:(readT d s).2.2=r) (e:Xp) (he:(readT d s).2.1=e) (h0:(readT d s).1=0):BFun false (KN w0) Tryz.prog 28 [.o (.c (.d (pI d))),.o (.c (.p 0 0)),.o (.c (.p 1 0)),.o (.c (.p 2 0)),.o (.c (.p 3 0))] [(9,[.d (pS s)]),(53,[.q 26 [(0,0)]]),(51,[.q 23 [(0,0)]]),(41,[.q 28 [(0,0),(1,0),(2,0),(3,0)]])] (.o (.g [.d (pI e.op),.d (pI e.n),.d (pLs cE e.l)])) [(9,[.d (pS r)]),(53,[.q 26 [(0,0)]]),(51,[.q 23 [(0,0)]]),(41,[.q 28 [(0,0),(1,0),(2,0),(3,0)]])]:=by
 obtain ⟨v1,e1⟩:∃v,(decide (d > (30:Int)))=v:=⟨_,rfl⟩
 cases h2:v1 with
 | true =>
  exfalso;have z:=of_decide_eq_true (e1.trans h2);have q:=zaW (d:=d) (by omega) s;rw [q] at h0;exact absurd (show (2:Int)=0 from h0) (by decide)
 | false =>
  obtain ⟨v3,e3⟩:∃v,((takeC 40 s).isSome)=v:=⟨_,rfl⟩
  have s4:([40]:List UInt8)=[40]:=by rfl
  obtain ⟨v5,e5⟩:∃v,(!v3)=v:=⟨_,rfl⟩
  cases h6:v5 with
  | true =>
   obtain ⟨v7,e7⟩:∃v,(wordW s)=v:=⟨_,rfl⟩
   obtain ⟨v8,e8⟩:∃v,(restW s)=v:=⟨_,rfl⟩
   have s9:IxAll w0 s:=by exact hI
   obtain ⟨v10,e10⟩:∃v,((takeC 36 v7).getD v7)=v:=⟨_,rfl⟩
   obtain ⟨v11,e11⟩:∃v,((takeC 36 v7).isSome)=v:=⟨_,rfl⟩
   have s12:([36]:List UInt8)=[36]:=by rfl
   cases h13:v11 with
   | true =>
    cases h14:(intW v10).isSome with
    | true =>
     obtain ⟨v15,e15⟩:∃v,((intW v10).getD 0)=v:=⟨_,rfl⟩
     have s16:(intW v10).isSome=true:=by assumption
     have s17:(v10:List UInt8).length<4294967281:=by (have q:=qK s;have q2:=hI.1;rw [e7] at q;have q3:=zhC 36 v7;rw [e10] at q3;omega)
     have r0:e=(Xp.mk (2:Int) v15 []):=by
      (have dh2:=of_decide_eq_false (e1.trans h2);have t0:(takeC 40 s).isSome=false:=(by have z:=e5.trans h6;rw [← e3] at z;simpa using z);have q:=qh (d:=d) (by omega) (zM t0);rw [e7,e8] at q;have t1:=e11.trans h13;rw [zdk (zn t1 e10) (zn h14 e15)] at q;simp only [q] at he hr;first | exact he.symm | exact hr.symm | (rw [← he];assumption) | (rw [← hr];assumption))
     have r1:r=v8:=by
      (have dh2:=of_decide_eq_false (e1.trans h2);have t0:(takeC 40 s).isSome=false:=(by have z:=e5.trans h6;rw [← e3] at z;simpa using z);have q:=qh (d:=d) (by omega) (zM t0);rw [e7,e8] at q;have t1:=e11.trans h13;rw [zdk (zn t1 e10) (zn h14 e15)] at q;simp only [q] at he hr;first | exact he.symm | exact hr.symm | (rw [← he];assumption) | (rw [← hr];assumption))
     rw [r0,r1];exact BFun.imp (zlk d s N IH hL v1 v3 v5 v7 v8 v10 v11 v15 e1 e3 e5 e7 e8 e10 e11 e15 h2 s4 h6 s9 s12 h13 h14 s16 s17) (zbm) (fun _ _ _ h=>h)
    | false =>
     exfalso;have dh2:=of_decide_eq_false (e1.trans h2);have t0:(takeC 40 s).isSome=false:=(by have z:=e5.trans h6;rw [← e3] at z;simpa using z);have q:=qh (d:=d) (by omega) (zM t0);rw [e7,e8] at q;have t1:=e11.trans h13;rw [zcv (zn t1 e10) (zM h14)] at q;simp only [q] at h0;exact absurd h0 (by decide)
   | false =>
    cases h14:(intW v7).isSome with
    | true =>
     obtain ⟨v15,e15⟩:∃v,((intW v7).getD 0)=v:=⟨_,rfl⟩
     have s16:(intW v7).isSome=true:=by assumption
     have s17:(v7:List UInt8).length<4294967281:=by (have q:=qK s;have q2:=hI.1;rw [e7] at q;omega)
     have r0:e=(Xp.mk (1:Int) v15 []):=by
      (have dh2:=of_decide_eq_false (e1.trans h2);have t0:(takeC 40 s).isSome=false:=(by have z:=e5.trans h6;rw [← e3] at z;simpa using z);have q:=qh (d:=d) (by omega) (zM t0);rw [e7,e8] at q;have t1:=e11.trans h13;rw [zdl (zM t1) (zn h14 e15)] at q;simp only [q] at he hr;first | exact he.symm | exact hr.symm | (rw [← he];assumption) | (rw [← hr];assumption))
     have r1:r=v8:=by
      (have dh2:=of_decide_eq_false (e1.trans h2);have t0:(takeC 40 s).isSome=false:=(by have z:=e5.trans h6;rw [← e3] at z;simpa using z);have q:=qh (d:=d) (by omega) (zM t0);rw [e7,e8] at q;have t1:=e11.trans h13;rw [zdl (zM t1) (zn h14 e15)] at q;simp only [q] at he hr;first | exact he.symm | exact hr.symm | (rw [← he];assumption) | (rw [← hr];assumption))
     rw [r0,r1];exact BFun.imp (zlm d s N IH hL v1 v3 v5 v7 v8 v10 v11 v15 e1 e3 e5 e7 e8 e10 e11 e15 h2 s4 h6 s9 s12 h13 h14 s16 s17) (zbm) (fun _ _ _ h=>h)
    | false =>
     exfalso;have dh2:=of_decide_eq_false (e1.trans h2);have t0:(takeC 40 s).isSome=false:=(by have z:=e5.trans h6;rw [← e3] at z;simpa using z);have q:=qh (d:=d) (by omega) (zM t0);rw [e7,e8] at q;have t1:=e11.trans h13;rw [zcw (zM t1) (zM h14)] at q;simp only [q] at h0;exact absurd h0 (by decide)
  | false =>
   obtain ⟨v7,e7⟩:∃v,((takeC 40 s).getD [])=v:=⟨_,rfl⟩
   have s8:([40]:List UInt8)=[40]:=by rfl
   have s9:(takeC 40 s).isSome=true:=by (have dh2:=of_decide_eq_false (e1.trans h2);simp_all)
   obtain ⟨v10,e10⟩:∃v,(wordW v7)=v:=⟨_,rfl⟩
   obtain ⟨v11,e11⟩:∃v,(restW v7)=v:=⟨_,rfl⟩
   have s12:IxAll w0 v7:=by exact hI.suf (zL (zn s9 e7))
   by_cases c12:opOf v10=none
   ·
    exfalso;have dh2:=of_decide_eq_false (e1.trans h2);have t0:(takeC 40 s).isSome=true:=(by have z:=e5.trans h6;rw [← e3] at z;simpa using z);have q:=zas (d:=d) (by omega) (zn t0 e7);rw [e10,e11] at q;rw [c12] at q;simp only [q] at h0;exact absurd h0 (by decide)
   ·
    by_cases c12_1:(argsT (readT (d+1)) ((opOf v10).getD 0) v11).1=0
    ·
     obtain ⟨r2,xr,hO_rd_B⟩:∃(r2:(List UInt8)) (xr:Xp),(argsT (readT (d+1)) ((opOf v10).getD 0) v11).2.1=xr∧(argsT (readT (d+1)) ((opOf v10).getD 0) v11).2.2=r2:=⟨_,_,rfl,rfl⟩
     have r0:e=xr:=by
      (have dh2:=of_decide_eq_false (e1.trans h2);have t0:(takeC 40 s).isSome=true:=(by have z:=e5.trans h6;rw [← e3] at z;simpa using z);have q:=zas (d:=d) (by omega) (zn t0 e7);rw [e10,e11] at q;rw [zbo c12] at q;simp only [q] at he hr;first | (rw [← he];exact hO_rd_B.1) | (rw [← hr];exact hO_rd_B.2))
     have r1:r=r2:=by
      (have dh2:=of_decide_eq_false (e1.trans h2);have t0:(takeC 40 s).isSome=true:=(by have z:=e5.trans h6;rw [← e3] at z;simpa using z);have q:=zas (d:=d) (by omega) (zn t0 e7);rw [e10,e11] at q;rw [zbo c12] at q;simp only [q] at he hr;first | (rw [← he];exact hO_rd_B.1) | (rw [← hr];exact hO_rd_B.2))
     rw [r0,r1];exact zlp d s N IH hL v1 v3 v5 v7 v10 v11 r2 xr e1 e3 e5 e7 e10 e11 h2 s4 h6 s8 s9 s12 (fun R hR=>znT d s N v1 v3 v5 v7 v10 v11 IH hL  h2 h6 r2 xr rfl rfl rfl rfl rfl rfl rfl rfl rfl rfl rfl rfl R hR (s12.suf (e11 ▸ qC v7)) ⟨hd.1,(by have z:=of_decide_eq_false (e1.trans h2);omega),hd.2⟩ _ (zbo c12) c12_1 hO_rd_B.1 hO_rd_B.2)
    ·
     exfalso;have dh2:=of_decide_eq_false (e1.trans h2);have t0:(takeC 40 s).isSome=true:=(by have z:=e5.trans h6;rw [← e3] at z;simpa using z);have q:=zas (d:=d) (by omega) (zn t0 e7);rw [e10,e11] at q;rw [zbo c12] at q;simp only [q] at h0;exact c12_1 h0
theorem zf2 {w0:World} {N:Nat} (IH:zz w0 N) (hL:LibT w0) (d:Int) (s r:List UInt8) (hd:1≤d∧(31 - d).toNat≤N+1) (hI:IxAll w0 s) (hr:(readT d s).2.2=r) (k:Int) (hk:(readT d s).1=k) (h0:(readT d s).1≠0):BFun true (KN w0) Tryz.prog 28 [.o (.c (.d (pI d))),.o (.c (.p 0 0)),.o (.c (.p 1 0)),.o (.c (.p 2 0)),.o (.c (.p 3 0))] [(9,[.d (pS s)]),(53,[.q 26 [(0,0)]]),(51,[.q 23 [(0,0)]]),(41,[.q 28 [(0,0),(1,0),(2,0),(3,0)]])] (.o (.c (.d (pV (.iface 44 (.int .i64 k)))))) [(9,[.d (pS r)]),(53,[.q 26 [(0,0)]]),(51,[.q 23 [(0,0)]]),(41,[.q 28 [(0,0),(1,0),(2,0),(3,0)]])]:=by
 obtain ⟨v1,e1⟩:∃v,(decide (d > (30:Int)))=v:=⟨_,rfl⟩
 cases h2:v1 with
 | true =>
  obtain ⟨v3,e3⟩:∃v,((2:Int))=v:=⟨_,rfl⟩
  have r0:k=v3:=by
   (have dh2:=of_decide_eq_true (e1.trans h2);have q:=zaW (d:=d) (by omega) s;simp only [q] at hk hr;first | exact hk.symm | exact hr.symm | (rw [← hk];assumption) | (rw [← hr];assumption))
  have r1:r=s:=by
   (have dh2:=of_decide_eq_true (e1.trans h2);have q:=zaW (d:=d) (by omega) s;simp only [q] at hk hr;first | exact hk.symm | exact hr.symm | (rw [← hk];assumption) | (rw [← hr];assumption))
  rw [r0,r1];exact zlj d s N IH hL v1 v3 e1 e3 h2
 | false =>
  obtain ⟨v3,e3⟩:∃v,((takeC 40 s).isSome)=v:=⟨_,rfl⟩
  have s4:([40]:List UInt8)=[40]:=by rfl
  obtain ⟨v5,e5⟩:∃v,(!v3)=v:=⟨_,rfl⟩
  cases h6:v5 with
  | true =>
   obtain ⟨v7,e7⟩:∃v,(wordW s)=v:=⟨_,rfl⟩
   obtain ⟨v8,e8⟩:∃v,(restW s)=v:=⟨_,rfl⟩
   have s9:IxAll w0 s:=by exact hI
   obtain ⟨v10,e10⟩:∃v,((takeC 36 v7).getD v7)=v:=⟨_,rfl⟩
   obtain ⟨v11,e11⟩:∃v,((takeC 36 v7).isSome)=v:=⟨_,rfl⟩
   have s12:([36]:List UInt8)=[36]:=by rfl
   cases h13:v11 with
   | true =>
    cases h14:(intW v10).isSome with
    | true =>
     exfalso;have dh2:=of_decide_eq_false (e1.trans h2);have t0:(takeC 40 s).isSome=false:=(by have z:=e5.trans h6;rw [← e3] at z;simpa using z);have q:=qh (d:=d) (by omega) (zM t0);rw [e7,e8] at q;have t1:=e11.trans h13;obtain ⟨z,hz⟩:=Option.isSome_iff_exists.1 h14;rw [zdk (zn t1 e10) hz] at q;simp only [q] at h0;exact h0 rfl
    | false =>
     obtain ⟨v15,e15⟩:∃v,((4:Int))=v:=⟨_,rfl⟩
     have s16:(intW v10).isSome=false:=by assumption
     have s17:(v10:List UInt8).length<4294967281:=by (have q:=qK s;have q2:=hI.1;rw [e7] at q;have q3:=zhC 36 v7;rw [e10] at q3;omega)
     have r0:k=v15:=by
      (have dh2:=of_decide_eq_false (e1.trans h2);have t0:(takeC 40 s).isSome=false:=(by have z:=e5.trans h6;rw [← e3] at z;simpa using z);have q:=qh (d:=d) (by omega) (zM t0);rw [e7,e8] at q;have t1:=e11.trans h13;rw [zcv (zn t1 e10) (zM h14)] at q;simp only [q] at hk hr;first | exact hk.symm | exact hr.symm | (rw [← hk];assumption) | (rw [← hr];assumption))
     have r1:r=v8:=by
      (have dh2:=of_decide_eq_false (e1.trans h2);have t0:(takeC 40 s).isSome=false:=(by have z:=e5.trans h6;rw [← e3] at z;simpa using z);have q:=qh (d:=d) (by omega) (zM t0);rw [e7,e8] at q;have t1:=e11.trans h13;rw [zcv (zn t1 e10) (zM h14)] at q;simp only [q] at hk hr;first | exact hk.symm | exact hr.symm | (rw [← hk];assumption) | (rw [← hr];assumption))
     rw [r0,r1];exact zll d s N IH hL v1 v3 v5 v7 v8 v10 v11 v15 e1 e3 e5 e7 e8 e10 e11 e15 h2 s4 h6 s9 s12 h13 h14 s16 s17
   | false =>
    cases h14:(intW v7).isSome with
    | true =>
     exfalso;have dh2:=of_decide_eq_false (e1.trans h2);have t0:(takeC 40 s).isSome=false:=(by have z:=e5.trans h6;rw [← e3] at z;simpa using z);have q:=qh (d:=d) (by omega) (zM t0);rw [e7,e8] at q;have t1:=e11.trans h13;obtain ⟨z,hz⟩:=Option.isSome_iff_exists.1 h14;rw [zdl (zM t1) hz] at q;simp only [q] at h0;exact h0 rfl
    | false =>
     obtain ⟨v15,e15⟩:∃v,((4:Int))=v:=⟨_,rfl⟩
     have s16:(intW v7).isSome=false:=by assumption
     have s17:(v7:List UInt8).length<4294967281:=by (have q:=qK s;have q2:=hI.1;rw [e7] at q;omega)
     have r0:k=v15:=by
      (have dh2:=of_decide_eq_false (e1.trans h2);have t0:(takeC 40 s).isSome=false:=(by have z:=e5.trans h6;rw [← e3] at z;simpa using z);have q:=qh (d:=d) (by omega) (zM t0);rw [e7,e8] at q;have t1:=e11.trans h13;rw [zcw (zM t1) (zM h14)] at q;simp only [q] at hk hr;first | exact hk.symm | exact hr.symm | (rw [← hk];assumption) | (rw [← hr];assumption))
     have r1:r=v8:=by
      (have dh2:=of_decide_eq_false (e1.trans h2);have t0:(takeC 40 s).isSome=false:=(by have z:=e5.trans h6;rw [← e3] at z;simpa using z);have q:=qh (d:=d) (by omega) (zM t0);rw [e7,e8] at q;have t1:=e11.trans h13;rw [zcw (zM t1) (zM h14)] at q;simp only [q] at hk hr;first | exact hk.symm | exact hr.symm | (rw [← hk];assumption) | (rw [← hr];assumption))
     rw [r0,r1];exact zln d s N IH hL v1 v3 v5 v7 v8 v10 v11 v15 e1 e3 e5 e7 e8 e10 e11 e15 h2 s4 h6 s9 s12 h13 h14 s16 s17
  | false =>
   obtain ⟨v7,e7⟩:∃v,((takeC 40 s).getD [])=v:=⟨_,rfl⟩
   have s8:([40]:List UInt8)=[40]:=by rfl
   have s9:(takeC 40 s).isSome=true:=by (have dh2:=of_decide_eq_false (e1.trans h2);simp_all)
   obtain ⟨v10,e10⟩:∃v,(wordW v7)=v:=⟨_,rfl⟩
   obtain ⟨v11,e11⟩:∃v,(restW v7)=v:=⟨_,rfl⟩
   have s12:IxAll w0 v7:=by exact hI.suf (zL (zn s9 e7))
   by_cases c12:opOf v10=none
   ·
    obtain ⟨v13,e13⟩:∃v,((4:Int))=v:=⟨_,rfl⟩
    have r0:k=v13:=by
     (have dh2:=of_decide_eq_false (e1.trans h2);have t0:(takeC 40 s).isSome=true:=(by have z:=e5.trans h6;rw [← e3] at z;simpa using z);have q:=zas (d:=d) (by omega) (zn t0 e7);rw [e10,e11] at q;rw [c12] at q;simp only [q] at hk hr;first | exact hk.symm | exact hr.symm | (rw [← hk];assumption) | (rw [← hr];assumption))
    have r1:r=v11:=by
     (have dh2:=of_decide_eq_false (e1.trans h2);have t0:(takeC 40 s).isSome=true:=(by have z:=e5.trans h6;rw [← e3] at z;simpa using z);have q:=zas (d:=d) (by omega) (zn t0 e7);rw [e10,e11] at q;rw [c12] at q;simp only [q] at hk hr;first | exact hk.symm | exact hr.symm | (rw [← hk];assumption) | (rw [← hr];assumption))
    rw [r0,r1];exact zlq d s N IH hL v1 v3 v5 v7 v10 v11 v13 e1 e3 e5 e7 e10 e11 e13 h2 s4 h6 s8 s9 s12 (fun R hR=>znR d s N v1 v3 v5 v7 v10 v11 IH hL  h2 h6  rfl rfl rfl rfl rfl rfl rfl rfl R hR (s12.suf (e11 ▸ qC v7)) ⟨hd.1,(by have z:=of_decide_eq_false (e1.trans h2);omega),hd.2⟩ c12)
   ·
    by_cases c12_1:(argsT (readT (d+1)) ((opOf v10).getD 0) v11).1=0
    ·
     exfalso;have dh2:=of_decide_eq_false (e1.trans h2);have t0:(takeC 40 s).isSome=true:=(by have z:=e5.trans h6;rw [← e3] at z;simpa using z);have q:=zas (d:=d) (by omega) (zn t0 e7);rw [e10,e11] at q;rw [zbo c12] at q;simp only [q] at h0;exact h0 c12_1
    ·
     obtain ⟨r2,kk,hO_rd_C⟩:∃(r2:(List UInt8)) (kk:Int),(argsT (readT (d+1)) ((opOf v10).getD 0) v11).1=kk∧(argsT (readT (d+1)) ((opOf v10).getD 0) v11).2.2=r2:=⟨_,_,rfl,rfl⟩
     have r0:k=kk:=by
      (have dh2:=of_decide_eq_false (e1.trans h2);have t0:(takeC 40 s).isSome=true:=(by have z:=e5.trans h6;rw [← e3] at z;simpa using z);have q:=zas (d:=d) (by omega) (zn t0 e7);rw [e10,e11] at q;rw [zbo c12] at q;simp only [q] at hk hr;first | (rw [← hk];exact hO_rd_C.1) | (rw [← hr];exact hO_rd_C.2))
     have r1:r=r2:=by
      (have dh2:=of_decide_eq_false (e1.trans h2);have t0:(takeC 40 s).isSome=true:=(by have z:=e5.trans h6;rw [← e3] at z;simpa using z);have q:=zas (d:=d) (by omega) (zn t0 e7);rw [e10,e11] at q;rw [zbo c12] at q;simp only [q] at hk hr;first | (rw [← hk];exact hO_rd_C.1) | (rw [← hr];exact hO_rd_C.2))
     rw [r0,r1];exact zlo d s N IH hL v1 v3 v5 v7 v10 v11 r2 kk e1 e3 e5 e7 e10 e11 h2 s4 h6 s8 s9 s12 (fun R hR=>znV d s N v1 v3 v5 v7 v10 v11 IH hL  h2 h6 r2 kk rfl rfl rfl rfl rfl rfl rfl rfl rfl rfl R hR (s12.suf (e11 ▸ qC v7)) ⟨hd.1,(by have z:=of_decide_eq_false (e1.trans h2);omega),hd.2⟩ _ (zbo c12) hO_rd_C.1 hO_rd_C.2 (fun z=>c12_1 (hO_rd_C.1.trans z)))
theorem zli {w0:World} (d:Int) (s:(List UInt8)) (N:Nat) (v1:Bool) (v3:Int) (e1:(decide (d > (30:Int)))=v1) (e3:((2:Int))=v3) (h2:v1=true):BFun true (KN w0) Tryz.prog 28 [.o (.c (.d (pI d))),.o (.c (.p 0 0)),.o (.c (.p 1 0)),.o (.c (.p 2 0)),.o (.c (.p 3 0))] [(9,[.d (pS s)]),(53,[.q 26 [(0,0)]]),(51,[.q 23 [(0,0)]]),(41,[.q 28 [(0,0),(1,0),(2,0),(3,0)]])] (.o (.c (.d (pV (.iface 44 (.int .i64 v3)))))) [(9,[.d (pS s)]),(53,[.q 26 [(0,0)]]),(51,[.q 23 [(0,0)]]),(41,[.q 28 [(0,0),(1,0),(2,0),(3,0)]])] :=
 con_b (pan:=true) (qg (F:=FL [pI d,pS s,pB v1,pV (.iface 44 (.int .i64 v3))] []) (C:=[(1000002,.bin .gtr 3 (yh 0) (LF (.k (.int .i64 30))) (yh 2)),
  (10002,.fb 2 true),
  (1000003,.pan ⟨25,[.o (.c (.k (.int .i64 2)))],[],yh 3,[]⟩)]) (k:=⟨28,[yh 0,.o (.c (.p 900 0)),.o (.c (.p 901 0)),.o (.c (.p 902 0)),.o (.c (.p 903 0))],[.bx 900 9 [.h 1],.bx 901 53 [.q 26 [(900,0)]],.bx 902 51 [.q 23 [(900,0)]],.bx 903 41 [.q 28 [(900,0),(901,0),(902,0),(903,0)]]],yh 3,[.bx 900 9 [.h 1],.bx 901 53 [.q 26 [(900,0)]],.bx 902 51 [.q 23 [(900,0)]],.bx 903 41 [.q 28 [(900,0),(901,0),(902,0),(903,0)]]]⟩) ⟨[],[],0⟩ [] 0 (zg ⟨za,za,za,za,trivial⟩) ⟨e_bin (zb rfl) zd (zb rfl) (r_cmp (congrArg some e1)),
  e_fbv h2,
  b_con (pan:=true) (zaD (2:Int) v3 e3),
  trivial⟩ mixed trivial (fun _ _ _ _ _ hs=>by cases hs) (by kernel_rfl))
theorem zg5 {w0:World} (hL:LibT w0) (d:Int) (s r:List UInt8) (k:Int) (hr:(readT d s).2.2=r) (hk:(readT d s).1=k) (h:30<d):BFun true (KN w0) Tryz.prog 28 [.o (.c (.d (pI d))),.o (.c (.p 0 0)),.o (.c (.p 1 0)),.o (.c (.p 2 0)),.o (.c (.p 3 0))] [(9,[.d (pS s)]),(53,[.q 26 [(0,0)]]),(51,[.q 23 [(0,0)]]),(41,[.q 28 [(0,0),(1,0),(2,0),(3,0)]])] (.o (.c (.d (pV (.iface 44 (.int .i64 k)))))) [(9,[.d (pS r)]),(53,[.q 26 [(0,0)]]),(51,[.q 23 [(0,0)]]),(41,[.q 28 [(0,0),(1,0),(2,0),(3,0)]])]:=by
 rw [zaW h s] at hr hk
 subst hr;subst hk
 exact zli d s 0 _ _ rfl rfl (decide_eq_true h)
theorem zbH {w0:World} (hL:LibT w0):∀N:Nat,zz w0 N
 | 0=>fun d s h1 h2 hI=>by
  have hq:=zaW (d:=d) (by omega) s
  exact ⟨fun e r _ _ h0=>by rw [hq] at h0;exact absurd (show (2:Int)=0 from h0) (by decide),fun k r hk hr _=>zg5 hL d s r k hr hk (by omega)⟩
 | N+1=>fun d s h1 h2 hI=>⟨fun e r he hr h0=>zg6 (zbH hL N) hL d s r ⟨h1,h2⟩ hI hr e he h0,fun k r hk hr h0=>zf2 (zbH hL N) hL d s r ⟨h1,h2⟩ hI hr k hk h0⟩
end Go.Proofs.YtdkofaajcpcjkaaGreatDoor
namespace Go.Proofs.YtdkofaajcpcjkaaGreatDoor
open Go.RowKit
theorem ziR {w0:World} (hL:LibT w0) (d:Int) (s:List UInt8) (e:Xp) (r:List UInt8) (he:(readT d s).2.1=e) (hr:(readT d s).2.2=r) (h0:((readT d s).1 == 0)=true) (h1:1≤d) (hI:IxAll w0 s):BFun false (KN w0) Tryz.prog 28 [.o (.c (.d (pI d))),.o (.c (.p 0 0)),.o (.c (.p 1 0)),.o (.c (.p 2 0)),.o (.c (.p 3 0))] [(9,[.d (pS s)]),(53,[.q 26 [(0,0)]]),(51,[.q 23 [(0,0)]]),(41,[.q 28 [(0,0),(1,0),(2,0),(3,0)]])] (.o (.g [.d (pI e.op),.d (pI e.n),.d (pLs cE e.l)])) [(9,[.d (pS r)]),(53,[.q 26 [(0,0)]]),(51,[.q 23 [(0,0)]]),(41,[.q 28 [(0,0),(1,0),(2,0),(3,0)]])]:=(zbH hL _ d s h1 (Nat.le_refl _) hI).1 e r he hr (eq_of_beq h0)
theorem zg7 {w0:World} (hL:LibT w0) (d:Int) (s:List UInt8) (k:Int) (r:List UInt8) (hk:(readT d s).1=k) (hr:(readT d s).2.2=r) (h0:((readT d s).1 == 0)=false) (h1:1≤d) (hI:IxAll w0 s):BFun true (KN w0) Tryz.prog 28 [.o (.c (.d (pI d))),.o (.c (.p 0 0)),.o (.c (.p 1 0)),.o (.c (.p 2 0)),.o (.c (.p 3 0))] [(9,[.d (pS s)]),(53,[.q 26 [(0,0)]]),(51,[.q 23 [(0,0)]]),(41,[.q 28 [(0,0),(1,0),(2,0),(3,0)]])] (.o (.c (.d (pV (.iface 44 (.int .i64 k)))))) [(9,[.d (pS r)]),(53,[.q 26 [(0,0)]]),(51,[.q 23 [(0,0)]]),(41,[.q 28 [(0,0),(1,0),(2,0),(3,0)]])]:=(zbH hL _ d s h1 (Nat.le_refl _) hI).2 k r hk hr (beq_eq_false_iff_ne.1 h0)
theorem zdB {w0:World} (s:(List UInt8)) (hL:LibT w0) (v1:Xp) (v2:(List UInt8)) (e1:((readT (1:Int) s).2.1)=v1) (e2:((readT (1:Int) s).2.2)=v2) (s3:((readT (1:Int) s).1 == 0)=true) (s4:1≤(1:Int)) (s5:IxAll w0 s):BFun false (KN w0) Tryz.prog 32 [.o (.c (.p 3 0)),.o (.c (.p 4 0))] [(9,[.d (pS s)]),(53,[.q 26 [(0,0)]]),(51,[.q 23 [(0,0)]]),(41,[.q 28 [(0,0),(1,0),(2,0),(3,0)]]),(32,[.d (pV (.int .i64 0)),.d (pV (.int .i64 0)),.d (pV (.slice none 0 0))])] (.t []) [(9,[.d (pS v2)]),(53,[.q 26 [(0,0)]]),(51,[.q 23 [(0,0)]]),(41,[.q 28 [(0,0),(1,0),(2,0),(3,0)]]),(32,[.d (pI v1.op),.d (pI v1.n),.d (pLs cE v1.l)])] :=
 con_b (pan:=false) (zr (F:=FL [pS s,pI v1.op,pI v1.n,pLs cE v1.l,pS v2] []) (C:=[(1000001,.call ⟨28,[.o (.c (.k (.int .i64 1))),.o (.c (.p 900 0)),.o (.c (.p 901 0)),.o (.c (.p 902 0)),.o (.c (.p 903 0))],[.bx 900 9 [.h 0],.bx 901 53 [.q 26 [(900,0)]],.bx 902 51 [.q 23 [(900,0)]],.bx 903 41 [.q 28 [(900,0),(901,0),(902,0),(903,0)]]],.o (.g [.h 1,.h 2,.h 3]),[.bx 900 9 [.h 4],.bx 901 53 [.q 26 [(900,0)]],.bx 902 51 [.q 23 [(900,0)]],.bx 903 41 [.q 28 [(900,0),(901,0),(902,0),(903,0)]]]⟩)]) (k:=⟨32,[.o (.c (.p 903 0)),.o (.c (.p 904 0))],[.bx 900 9 [.h 0],.bx 901 53 [.q 26 [(900,0)]],.bx 902 51 [.q 23 [(900,0)]],.bx 903 41 [.q 28 [(900,0),(901,0),(902,0),(903,0)]],.bx 904 32 [.k (.int .i64 0),.k (.int .i64 0),.k (.slice none 0 0)]],.t [],[.bx 900 9 [.h 4],.bx 901 53 [.q 26 [(900,0)]],.bx 902 51 [.q 23 [(900,0)]],.bx 903 41 [.q 28 [(900,0),(901,0),(902,0),(903,0)]],.bx 904 32 [.h 1,.h 2,.h 3]]⟩) 0 (zg ⟨za,za,za,(ze (zf rfl)),za,trivial⟩) ⟨b_con (pan:=false) (ziR hL (1:Int) s v1 v2 e1 e2 s3 s4 s5),
  trivial⟩ mixed (by kernel_rfl))
theorem ziO {w0:World} (s:(List UInt8)) (hL:LibT w0) (v1:Int) (v2:(List UInt8)) (e1:((readT (1:Int) s).1)=v1) (e2:((readT (1:Int) s).2.2)=v2) (s3:((readT (1:Int) s).1 == 0)=false) (s4:1≤(1:Int)) (s5:IxAll w0 s):BFun true (KN w0) Tryz.prog 32 [.o (.c (.p 3 0)),.o (.c (.p 4 0))] [(9,[.d (pS s)]),(53,[.q 26 [(0,0)]]),(51,[.q 23 [(0,0)]]),(41,[.q 28 [(0,0),(1,0),(2,0),(3,0)]]),(32,[.d (pV (.int .i64 0)),.d (pV (.int .i64 0)),.d (pV (.slice none 0 0))])] (.o (.c (.d (pV (.iface 44 (.int .i64 v1)))))) [(9,[.d (pS v2)]),(53,[.q 26 [(0,0)]]),(51,[.q 23 [(0,0)]]),(41,[.q 28 [(0,0),(1,0),(2,0),(3,0)]]),(32,[.d (pV (.int .i64 0)),.d (pV (.int .i64 0)),.d (pV (.slice none 0 0))])] :=
 con_b (pan:=true) (qg (F:=FL [pS s,pV (.iface 44 (.int .i64 v1)),pS v2] []) (C:=[(1000001,.pan ⟨28,[.o (.c (.k (.int .i64 1))),.o (.c (.p 900 0)),.o (.c (.p 901 0)),.o (.c (.p 902 0)),.o (.c (.p 903 0))],[.bx 900 9 [.h 0],.bx 901 53 [.q 26 [(900,0)]],.bx 902 51 [.q 23 [(900,0)]],.bx 903 41 [.q 28 [(900,0),(901,0),(902,0),(903,0)]]],yh 1,[.bx 900 9 [.h 2],.bx 901 53 [.q 26 [(900,0)]],.bx 902 51 [.q 23 [(900,0)]],.bx 903 41 [.q 28 [(900,0),(901,0),(902,0),(903,0)]]]⟩)]) (k:=⟨32,[.o (.c (.p 903 0)),.o (.c (.p 904 0))],[.bx 900 9 [.h 0],.bx 901 53 [.q 26 [(900,0)]],.bx 902 51 [.q 23 [(900,0)]],.bx 903 41 [.q 28 [(900,0),(901,0),(902,0),(903,0)]],.bx 904 32 [.k (.int .i64 0),.k (.int .i64 0),.k (.slice none 0 0)]],yh 1,[.bx 900 9 [.h 2],.bx 901 53 [.q 26 [(900,0)]],.bx 902 51 [.q 23 [(900,0)]],.bx 903 41 [.q 28 [(900,0),(901,0),(902,0),(903,0)]],.bx 904 32 [.k (.int .i64 0),.k (.int .i64 0),.k (.slice none 0 0)]]⟩) ⟨[],[],0⟩ [] 0 (zg ⟨za,za,za,trivial⟩) ⟨b_con (pan:=true) (zg7 hL (1:Int) s v1 v2 e1 e2 s3 s4 s5),
  trivial⟩ mixed trivial (fun _ _ _ _ _ hs=>by cases hs) (by kernel_rfl))
theorem zb0 {K:Kit}:FineC K (pV (.slice none 0 0)):=za rfl
def parO (s:List UInt8):Bool:=(qq s).isSome
def parE (s:List UInt8):Xp:=(qq s).getD X0
theorem zdJ {p:PC} {v:Value} {W:World} {D:Dat} (h:(PSh.t [.g [pV (.int .i64 0),pV (.int .i64 0),pV (.slice none 0 0)],p]).ok v W D):(PSh.t [.g [pI X0.op,pI X0.n,pLs cE X0.l],p]).ok v W D:=by
 obtain ⟨vs,e,h⟩:=h
 refine ⟨vs,e,?_⟩
 match vs.toList,h with
 | [a,b],⟨⟨us,e1,h1⟩,h2,_⟩ =>
  refine ⟨⟨us,e1,?_⟩,h2,trivial⟩
  match us.toList,h1 with
  | [x,y,z],⟨h3,h4,h5,_⟩=>exact ⟨h3,h4,zbP _ _ _ h5,trivial⟩
theorem zil {w0:World} (s:(List UInt8)) (hL:LibT w0) (v4:Xp) (v5:(List UInt8)) (v6:Bool) (e4:((readT 1 s).2.1)=v4) (e5:((readT 1 s).2.2)=v5) (e6:(!((v5:List UInt8) == []))=v6) (h1:((readT 1 s).1 == 0)=true) (s2:((readT 1 s).1 == 0)=true) (s3:IxAll w0 s) (h7:v6=true):Fun (KN w0) Tryz.prog 8 [.o (.c (pS s))] (.t [.g [pV (.int .i64 0),pV (.int .i64 0),pV (.slice none 0 0)],.c (pV (.bool false))]):=
 zk (zr (F:=FL [pS s,pI v4.op,pI v4.n,pLs cE v4.l,pS v5,pB v6] []) (C:=[(1000016,.call ⟨31,[.o (.c (.q 32 [(11,0),(14,0)]))],[.bx 3 9 [.h 0],.bx 9 53 [.q 26 [(3,0)]],.bx 6 51 [.q 23 [(3,0)]],.bx 11 41 [.q 28 [(3,0),(9,0),(6,0),(11,0)]],.bx 14 32 [.k (.int .i64 0),.k (.int .i64 0),.k (.slice none 0 0)]],.o (.c (.k (.int .i64 0))),[.bx 3 9 [.h 4],.bx 9 53 [.q 26 [(3,0)]],.bx 6 51 [.q 23 [(3,0)]],.bx 11 41 [.q 28 [(3,0),(9,0),(6,0),(11,0)]],.bx 14 32 [.h 1,.h 2,.h 3]]⟩),
  (1000022,.bin .neq 9 (yh 4) (LF (.k (.string ⟨#[]⟩))) (yh 5)),
  (10005,.fb 5 true)]) (k:=⟨8,[yh 0],[],.t [.g [.k (.int .i64 0),.k (.int .i64 0),.k (.slice none 0 0)],.c (.k (.bool false))],[]⟩) 0 (zg ⟨za,za,za,(ze (zf rfl)),za,za,trivial⟩) ⟨b_con (pan:=false) (zeA (caps:=[(3,0),(4,0)]) (fun _ _=>zac (by kernel_rfl)) (zdB s hL v4 v5 e4 e5 s2 (by decide) s3) ⟨⟨za,trivial⟩,⟨trivial,trivial⟩,⟨trivial,trivial⟩,⟨trivial,trivial⟩,⟨za,za,zb0,trivial⟩,trivial⟩ ⟨⟨za,trivial⟩,⟨trivial,trivial⟩,⟨trivial,trivial⟩,⟨trivial,trivial⟩,⟨za,za,ze (zf rfl),trivial⟩,trivial⟩),
  e_bin (zb rfl) zd (zb rfl) (fun W X Y=>by rw [← e6];exact r_sne W X Y),
  e_fbv h7,
  trivial⟩ mixed (by kernel_rfl))
theorem zim {w0:World} (s:(List UInt8)) (hL:LibT w0) (v4:Xp) (v5:(List UInt8)) (v6:Bool) (v8:Int) (v10:Bool) (e4:((readT 1 s).2.1)=v4) (e5:((readT 1 s).2.2)=v5) (e6:(!((v5:List UInt8) == []))=v6) (e8:(z6 v4 (4:Int))=v8) (e10:((v8 != (0:Int)))=v10) (h1:((readT 1 s).1 == 0)=true) (s2:((readT 1 s).1 == 0)=true) (s3:IxAll w0 s) (h7:v6=false) (s9:nodes v4≤1000000) (h11:v10=true):Fun (KN w0) Tryz.prog 8 [.o (.c (pS s))] (.t [.g [pV (.int .i64 0),pV (.int .i64 0),pV (.slice none 0 0)],.c (pV (.bool false))]):=
 zk (zr (F:=FL [pS s,pI v4.op,pI v4.n,pLs cE v4.l,pS v5,pB v6,pI v8,pB v10] []) (C:=[(1000016,.call ⟨31,[.o (.c (.q 32 [(11,0),(14,0)]))],[.bx 3 9 [.h 0],.bx 9 53 [.q 26 [(3,0)]],.bx 6 51 [.q 23 [(3,0)]],.bx 11 41 [.q 28 [(3,0),(9,0),(6,0),(11,0)]],.bx 14 32 [.k (.int .i64 0),.k (.int .i64 0),.k (.slice none 0 0)]],.o (.c (.k (.int .i64 0))),[.bx 3 9 [.h 4],.bx 9 53 [.q 26 [(3,0)]],.bx 6 51 [.q 23 [(3,0)]],.bx 11 41 [.q 28 [(3,0),(9,0),(6,0),(11,0)]],.bx 14 32 [.h 1,.h 2,.h 3]]⟩),
  (1000022,.bin .neq 9 (yh 4) (LF (.k (.string ⟨#[]⟩))) (yh 5)),
  (10005,.fb 5 false),
  (1000026,.call ⟨19,[.o (.g [.h 1,.h 2,.h 3]),.o (.c (.k (.int .i64 4)))],[],yh 6,[]⟩),
  (1000027,.bin .neq 44 (yh 6) (LF (.k (.int .i64 0))) (yh 7)),
  (10007,.fb 7 true)]) (k:=⟨8,[yh 0],[],.t [.g [.k (.int .i64 0),.k (.int .i64 0),.k (.slice none 0 0)],.c (.k (.bool false))],[]⟩) 0 (zg ⟨za,za,za,(ze (zf rfl)),za,za,za,za,trivial⟩) ⟨b_con (pan:=false) (zeA (caps:=[(3,0),(4,0)]) (fun _ _=>zac (by kernel_rfl)) (zdB s hL v4 v5 e4 e5 s2 (by decide) s3) ⟨⟨za,trivial⟩,⟨trivial,trivial⟩,⟨trivial,trivial⟩,⟨trivial,trivial⟩,⟨za,za,zb0,trivial⟩,trivial⟩ ⟨⟨za,trivial⟩,⟨trivial,trivial⟩,⟨trivial,trivial⟩,⟨trivial,trivial⟩,⟨za,za,ze (zf rfl),trivial⟩,trivial⟩),
  e_bin (zb rfl) zd (zb rfl) (fun W X Y=>by rw [← e6];exact r_sne W X Y),
  e_fbv h7,
  zh (zbS v4 (4:Int) v8 e8 s9),
  e_bin (zb rfl) zd (zb rfl) (r_cmp (congrArg some e10)),
  e_fbv h11,
  trivial⟩ mixed (by kernel_rfl))
theorem zin {w0:World} (s:(List UInt8)) (hL:LibT w0) (v4:Xp) (v5:(List UInt8)) (v6:Bool) (v8:Int) (v10:Bool) (e4:((readT 1 s).2.1)=v4) (e5:((readT 1 s).2.2)=v5) (e6:(!((v5:List UInt8) == []))=v6) (e8:(z6 v4 (4:Int))=v8) (e10:((v8 != (0:Int)))=v10) (h1:((readT 1 s).1 == 0)=true) (s2:((readT 1 s).1 == 0)=true) (s3:IxAll w0 s) (h7:v6=false) (s9:nodes v4≤1000000) (h11:v10=false):Fun (KN w0) Tryz.prog 8 [.o (.c (pS s))] (.t [.g [pI v4.op,pI v4.n,pLs cE v4.l],.c (pV (.bool true))]):=
 zk (zr (F:=FL [pS s,pI v4.op,pI v4.n,pLs cE v4.l,pS v5,pB v6,pI v8,pB v10] []) (C:=[(1000016,.call ⟨31,[.o (.c (.q 32 [(11,0),(14,0)]))],[.bx 3 9 [.h 0],.bx 9 53 [.q 26 [(3,0)]],.bx 6 51 [.q 23 [(3,0)]],.bx 11 41 [.q 28 [(3,0),(9,0),(6,0),(11,0)]],.bx 14 32 [.k (.int .i64 0),.k (.int .i64 0),.k (.slice none 0 0)]],.o (.c (.k (.int .i64 0))),[.bx 3 9 [.h 4],.bx 9 53 [.q 26 [(3,0)]],.bx 6 51 [.q 23 [(3,0)]],.bx 11 41 [.q 28 [(3,0),(9,0),(6,0),(11,0)]],.bx 14 32 [.h 1,.h 2,.h 3]]⟩),
  (1000022,.bin .neq 9 (yh 4) (LF (.k (.string ⟨#[]⟩))) (yh 5)),
  (10005,.fb 5 false),
  (1000026,.call ⟨19,[.o (.g [.h 1,.h 2,.h 3]),.o (.c (.k (.int .i64 4)))],[],yh 6,[]⟩),
  (1000027,.bin .neq 44 (yh 6) (LF (.k (.int .i64 0))) (yh 7)),
  (10007,.fb 7 false)]) (k:=⟨8,[yh 0],[],.t [.g [.h 1,.h 2,.h 3],.c (.k (.bool true))],[]⟩) 0 (zg ⟨za,za,za,(ze (zf rfl)),za,za,za,za,trivial⟩) ⟨b_con (pan:=false) (zeA (caps:=[(3,0),(4,0)]) (fun _ _=>zac (by kernel_rfl)) (zdB s hL v4 v5 e4 e5 s2 (by decide) s3) ⟨⟨za,trivial⟩,⟨trivial,trivial⟩,⟨trivial,trivial⟩,⟨trivial,trivial⟩,⟨za,za,zb0,trivial⟩,trivial⟩ ⟨⟨za,trivial⟩,⟨trivial,trivial⟩,⟨trivial,trivial⟩,⟨trivial,trivial⟩,⟨za,za,ze (zf rfl),trivial⟩,trivial⟩),
  e_bin (zb rfl) zd (zb rfl) (fun W X Y=>by rw [← e6];exact r_sne W X Y),
  e_fbv h7,
  zh (zbS v4 (4:Int) v8 e8 s9),
  e_bin (zb rfl) zd (zb rfl) (r_cmp (congrArg some e10)),
  e_fbv h11,
  trivial⟩ mixed (by kernel_rfl))
theorem zio {w0:World} (s:(List UInt8)) (hL:LibT w0) (v4:Int) (v5:(List UInt8)) (v6:Bool) (e4:((readT 1 s).1)=v4) (e5:((readT 1 s).2.2)=v5) (e6:((v4 != (0:Int)))=v6) (h1:((readT 1 s).1 == 0)=false) (s2:((readT 1 s).1 == 0)=false) (s3:IxAll w0 s) (s7:v6=true):Fun (KN w0) Tryz.prog 8 [.o (.c (pS s))] (.t [.g [pV (.int .i64 0),pV (.int .i64 0),pV (.slice none 0 0)],.c (pV (.bool false))]):=
 zk (zr (F:=FL [pS s,pS v5,pI v4,pB v6] []) (C:=[(1000016,.call ⟨31,[.o (.c (.q 32 [(11,0),(14,0)]))],[.bx 3 9 [.h 0],.bx 9 53 [.q 26 [(3,0)]],.bx 6 51 [.q 23 [(3,0)]],.bx 11 41 [.q 28 [(3,0),(9,0),(6,0),(11,0)]],.bx 14 32 [.k (.int .i64 0),.k (.int .i64 0),.k (.slice none 0 0)]],yh 2,[.bx 3 9 [.h 1],.bx 9 53 [.q 26 [(3,0)]],.bx 6 51 [.q 23 [(3,0)]],.bx 11 41 [.q 28 [(3,0),(9,0),(6,0),(11,0)]],.bx 14 32 [.k (.int .i64 0),.k (.int .i64 0),.k (.slice none 0 0)]]⟩),
  (1000019,.bin .neq 44 (yh 2) (LF (.k (.int .i64 0))) (yh 3)),
  (10003,.fb 3 true)]) (k:=⟨8,[yh 0],[],.t [.g [.k (.int .i64 0),.k (.int .i64 0),.k (.slice none 0 0)],.c (.k (.bool false))],[]⟩) 0 (zg ⟨za,za,za,za,trivial⟩) ⟨b_con (pan:=false) (zhv (caps:=[(3,0),(4,0)]) (fun _ _=>zac (by kernel_rfl)) v4 (ziO s hL v4 v5 e4 e5 s2 (by decide) s3) ⟨⟨za,trivial⟩,⟨trivial,trivial⟩,⟨trivial,trivial⟩,⟨trivial,trivial⟩,⟨za,za,zb0,trivial⟩,trivial⟩ ⟨⟨za,trivial⟩,⟨trivial,trivial⟩,⟨trivial,trivial⟩,⟨trivial,trivial⟩,⟨za,za,zb0,trivial⟩,trivial⟩),
  e_bin (zb rfl) zd (zb rfl) (r_cmp (congrArg some e6)),
  e_fbv s7,
  trivial⟩ mixed (by kernel_rfl))
theorem zjU {w:List UInt8} {e:Xp} (h:leafP w=some e):nodes e=1∧1≤w.length:=by
 have hw:=zd0 h
 unfold leafP at h
 have key:∀(o n:Int),nodes (.mk o n [])=1:=fun o n=>by rw [nodes,zw]
 have hne:e.l=[]:=by
  split at h
  ·rename_i d hd
   cases hi:intW d with
   | none=>rw [hi] at h;cases h
   | some n=>rw [hi] at h;injection h with h;rw [← h];rfl
  ·cases hi:intW w with
   | none=>rw [hi] at h;cases h
   | some n=>rw [hi] at h;injection h with h;rw [← h];rfl
 cases e with
 | mk o n l =>
  have hl:l=[]:=hne
  subst hl
  refine ⟨key o n,?_⟩
  rw [hw]
  refine List.length_pos_iff.2 fun hz=>?_
  by_cases h1:o=1
  ·rw [h1,qW] at hz;exact zcu n hz
  ·by_cases h2:o=2
   ·rw [h2,zag] at hz;cases hz
   ·rw [zy,if_neg h1,if_neg h2] at hz;cases hz
theorem zce {c:UInt8} {s r:List UInt8} (h:takeC c s=some r):s.length=r.length+1:=by rw [qV h];rfl
theorem zbQ:∀(f:Nat) (s:List UInt8),(readQ f s).1=0→nodes (readQ f s).2.1+(readQ f s).2.2.length≤s.length
 | 0,s,h=>by cases h
 | f+1,s,h=>by
  have wr:∀t:List UInt8,(wordW t).length+(restW t).length=t.length:=fun t=>by rw [← List.length_append,q8]
  rw [readQ] at h ⊢
  cases h0:takeC 40 s with
  | none =>
   rw [h0] at h
   simp only at h ⊢
   cases hl:leafP (wordW s) with
   | none=>rw [hl] at h;cases h
   | some e =>
    have:=zjU hl
    have:=wr s
    simp only
    omega
  | some s1 =>
   rw [h0] at h
   simp only at h ⊢
   have l0:=zce h0
   have l1:=wr s1
   cases ho:opOf (wordW s1) with
   | none=>rw [ho] at h;cases h
   | some o =>
    rw [ho] at h
    simp only at h ⊢
    unfold argsT at h ⊢
    cases h2:takeC 32 (restW s1) with
    | none=>rw [h2] at h;cases h
    | some s2 =>
     rw [h2] at h
     simp only at h ⊢
     have l2:=zce h2
     by_cases hz:(readQ f s2).1=0
     ·simp only [hz,ne_eq,not_true_eq_false,if_false] at h ⊢
      have n2:=zbQ f s2 hz
      cases h4:takeC 32 (readQ f s2).2.2 with
      | none=>rw [h4] at h;cases h
      | some s4 =>
       rw [h4] at h
       simp only at h ⊢
       have l4:=zce h4
       by_cases hz4:(readQ f s4).1=0
       ·simp only [hz4,not_true_eq_false,if_false] at h ⊢
        have n4:=zbQ f s4 hz4
        cases h6:takeC 41 (readQ f s4).2.2 with
        | none=>rw [h6] at h;cases h
        | some s6 =>
         have l6:=zce h6
         simp only
         rw [nodes,zw,zw,zw]
         omega
       ·simp only [hz4,not_false_eq_true,if_true] at h
     ·simp only [hz,ne_eq,not_false_eq_true,if_true] at h
theorem zbT {w0:World} (hL:LibT w0) (s:List UInt8) (e:Xp) (b:Bool) (he:parE s=e) (ho:parO s=b) (hI:IxAll w0 s) (hl:s.length≤1000000):Fun (KN w0) Tryz.prog 8 [.o (.c (pS s))] (.t [.g [pI e.op,pI e.n,pLs cE e.l],.c (pB b)]):=by
 cases h1:((readT 1 s).1 == 0) with
 | true =>
  have s2:((readT 1 s).1 == 0)=true:=by assumption
  have s3:IxAll w0 s:=by exact hI
  obtain ⟨v4,e4⟩:∃v,((readT 1 s).2.1)=v:=⟨_,rfl⟩
  obtain ⟨v5,e5⟩:∃v,((readT 1 s).2.2)=v:=⟨_,rfl⟩
  obtain ⟨v6,e6⟩:∃v,(!((v5:List UInt8) == []))=v:=⟨_,rfl⟩
  cases h7:v6 with
  | true =>
   refine Fun.imp (zil s hL v4 v5 v6 e4 e5 e6 h1 s2 s3 h7) (fun _ _ _ h=>h) (fun v W D h=>?_)
   have r0:e=X0:=by
    (have z:=qB s;unfold parE at he;unfold parO at ho;rw [if_neg (fun h=>by rw [e5] at h;have q:=e6.trans h7;rw [h.2.1] at q;cases q)] at z;first | (rw [← he,z];rfl) | (rw [← ho,z];rfl))
   have r1:b=false:=by
    (have z:=qB s;unfold parE at he;unfold parO at ho;rw [if_neg (fun h=>by rw [e5] at h;have q:=e6.trans h7;rw [h.2.1] at q;cases q)] at z;first | (rw [← he,z];rfl) | (rw [← ho,z];rfl))
   rw [r0,r1];exact zdJ h
  | false =>
   obtain ⟨v8,e8⟩:∃v,(z6 v4 (4:Int))=v:=⟨_,rfl⟩
   have s9:nodes v4≤1000000:=by (have z:=zbQ _ s (eq_of_beq s2);rw [show readQ _ s=readT 1 s from rfl,e4] at z;omega)
   obtain ⟨v10,e10⟩:∃v,((v8 != (0:Int)))=v:=⟨_,rfl⟩
   cases h11:v10 with
   | true =>
    refine Fun.imp (zim s hL v4 v5 v6 v8 v10 e4 e5 e6 e8 e10 h1 s2 s3 h7 s9 h11) (fun _ _ _ h=>h) (fun v W D h=>?_)
    have r0:e=X0:=by
     (have dh11:=bne_iff_ne.1 (e10.trans h11);have z:=qB s;unfold parE at he;unfold parO at ho;rw [if_neg (fun h=>by rw [e4,e8] at h;simp_all)] at z;first | (rw [← he,z];rfl) | (rw [← ho,z];rfl))
    have r1:b=false:=by
     (have dh11:=bne_iff_ne.1 (e10.trans h11);have z:=qB s;unfold parE at he;unfold parO at ho;rw [if_neg (fun h=>by rw [e4,e8] at h;simp_all)] at z;first | (rw [← he,z];rfl) | (rw [← ho,z];rfl))
    rw [r0,r1];exact zdJ h
   | false =>
    refine Fun.imp (zin s hL v4 v5 v6 v8 v10 e4 e5 e6 e8 e10 h1 s2 s3 h7 s9 h11) (fun _ _ _ h=>h) (fun v W D h=>?_)
    have r0:e=v4:=by
     (have dh11:=bne_eq_false_iff_eq.1 (e10.trans h11);have z:=qB s;unfold parE at he;unfold parO at ho;rw [if_pos ⟨eq_of_beq s2,by rw [e5];simpa using e6.trans h7,by rw [e4,e8];simp_all⟩,e4] at z;first | (rw [← he,z];rfl) | (rw [← ho,z];rfl))
    have r1:b=true:=by
     (have dh11:=bne_eq_false_iff_eq.1 (e10.trans h11);have z:=qB s;unfold parE at he;unfold parO at ho;rw [if_pos ⟨eq_of_beq s2,by rw [e5];simpa using e6.trans h7,by rw [e4,e8];simp_all⟩,e4] at z;first | (rw [← he,z];rfl) | (rw [← ho,z];rfl))
    rw [r0,r1];exact h
 | false =>
  have s2:((readT 1 s).1 == 0)=false:=by assumption
  have s3:IxAll w0 s:=by exact hI
  obtain ⟨v4,e4⟩:∃v,((readT 1 s).1)=v:=⟨_,rfl⟩
  obtain ⟨v5,e5⟩:∃v,((readT 1 s).2.2)=v:=⟨_,rfl⟩
  obtain ⟨v6,e6⟩:∃v,((v4 != (0:Int)))=v:=⟨_,rfl⟩
  have s7:v6=true:=by (rw [← e6,← e4];exact bne_iff_ne.2 (beq_eq_false_iff_ne.1 s2))
  refine Fun.imp (zio s hL v4 v5 v6 e4 e5 e6 h1 s2 s3 s7) (fun _ _ _ h=>h) (fun v W D h=>?_)
  have r0:e=X0:=by
   (have z:=qB s;unfold parE at he;unfold parO at ho;rw [if_neg (fun h=>absurd h.1 (beq_eq_false_iff_ne.1 s2))] at z;first | (rw [← he,z];rfl) | (rw [← ho,z];rfl))
  have r1:b=false:=by
   (have z:=qB s;unfold parE at he;unfold parO at ho;rw [if_neg (fun h=>absurd h.1 (beq_eq_false_iff_ne.1 s2))] at z;first | (rw [← he,z];rfl) | (rw [← ho,z];rfl))
  rw [r0,r1];exact zdJ h
end Go.Proofs.YtdkofaajcpcjkaaGreatDoor
