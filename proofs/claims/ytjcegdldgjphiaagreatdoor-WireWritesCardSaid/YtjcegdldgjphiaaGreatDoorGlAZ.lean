/-
  Merged: SymEq, WrO, WrS, WrT, WrU, WrV, WrOp, WrW, WrCut0.
-/
import Derived.Test.YtjcegdldgjphiaaGreatDoorGlAY
import Derived.Test.YtjcegdldgjphiaaGreatDoorGlAD
import Derived.Laws.StructEq
import Derived.Test.YtjcegdldgjphiaaGreatDoorGlAX
import Derived.Test.YtjcegdldgjphiaaGreatDoorGlAU
set_option linter.unusedSimpArgs false
set_option linter.unusedVariables false
set_option maxRecDepth 100000
set_option maxHeartbeats 4000000
namespace Go.Proofs.YtjcegdldgjphiaaGreatDoor
open Go.RowKit
theorem yx {α:Type} (a:α):∃v,a=v:=⟨a,rfl⟩
theorem zhK {w:World} {cs:Array Value} {o:Nat} {v:Value} (h:cs[o]?=some v):(part 3 cs o).run Tryz.prog w=.ok v w:=by
 unfold part
 rw [Sem.run_bind,Tryz.isAgg3,Result.andThen_ok]
 simp [h]
theorem zgs {w : World} {d : Nat} {xs ys : Array Value} {f : Field} {fs : List Field} {a b : Int} (hn : f.name ≠ "_") (ht : f.type = 3) (ha : xs[f.offset]? = some (.int .i64 a)) (hb : ys[f.offset]? = some (.int .i64 b)) :
  (Op.eqFields (d+1) xs ys (f::fs)).run Tryz.prog w=if a=b then (Op.eqFields (d+1) xs ys fs).run Tryz.prog w else .ok false w:=by
 rw [Op.eqFields]
 rw [if_pos hn,Sem.run_bind,ht,zhK ha,Result.andThen_ok,Sem.run_bind,zhK hb,Result.andThen_ok,Sem.run_bind,run_equalIn_int (P:=Tryz.prog) w d _ _ .i64 _ _ Tryz.underlying3,Result.andThen_ok]
 by_cases h:a=b
 ·subst h;simp
 ·simp [h]
def vcs (x:Int×Int×Int):List Value:=[.int .i64 x.1,.int .i64 x.2.1,.int .i64 x.2.2]
theorem zob (d:Nat) (x y:Int×Int×Int) (w:World):(Op.equalIn (d+2) 24 (.agg (vcs x).toArray) (.agg (vcs y).toArray)).run Tryz.prog w=.ok (decide (x=y)) w:=by
 have hf : (Tryz.prog.fieldsOf 24).toList = [⟨"X", 3, 0, false, "", "", 0⟩, ⟨"Y", 3, 1, false, "", "", 8⟩, ⟨"Z", 3, 2, false, "", "", 16⟩] := by kernel_rfl
 rw [run_equalIn_struct w (d+1) _ _ _ (by kernel_rfl) (by kernel_rfl),hf,zgs (a:=x.1) (b:=y.1) (by decide) rfl rfl rfl,zgs (a:=x.2.1) (b:=y.2.1) (by decide) rfl rfl rfl,zgs (a:=x.2.2) (b:=y.2.2) (by decide) rfl rfl rfl]
 obtain ⟨a,b,c⟩:=x
 obtain ⟨a',b',c'⟩:=y
 simp only [Prod.mk.injEq]
 by_cases h1:a=a'<;>by_cases h2:b=b'<;>by_cases h3:c=c'<;>simp [h1,h2,h3,Op.eqFields]
section
variable {K:Kit} {F:Fact}
theorem zmg {W:World} {β:Loc} {ls:List Lf} {us:List Value}:∀{vs:Array Value},(∀v,oks F β ls v W→v=us)→oks F β ls vs.toList W→vs=us.toArray:=by
 intro vs h ho
 exact Array.ext' (by simpa using h _ ho)
theorem e_eqG {T:TypeId} {ls ms:List Lf} {o:Lf} {us ts:List Value} {neg b:Bool} (hg:Tryz.prog.eqGuardType Tryz.prog.depth T=false) (hx:∀β v W,oks F β ls v W→v=us) (hy:∀β v W,oks F β ms v W→v=ts) (he:∀w,(Op.equalIn 10000 T (.agg us.toArray) (.agg ts.toArray)).run Tryz.prog w=.ok b w) (ho:Gives F o (.bool (if neg then !b else b))) :
  Ent.sound K Tryz.prog F (.bin (if neg then .neq else .eql) T (.o (.g ls)) (.o (.g ms)) (LF o)):=by
 intro β W vx vy h1 h2
 obtain ⟨xs,rfl,h1⟩:=h1
 obtain ⟨ys,rfl,h2⟩:=h2
 obtain rfl:=zmg (hx β · W) h1
 obtain rfl:=zmg (hy β · W) h2
 refine ⟨_,fun X Y=>?_,(ho β _ W).2 rfl⟩
 rw [Sem.run_bind,run_eqGuard_agg W _ _ _ _ _ _ hg,Result.andThen_ok]
 cases neg
 ·simp only [Bool.false_eq_true,if_false]
  rw [run_eql_struct,he,Result.andThen_ok]
 ·simp only [if_true]
  rw [run_neq_struct,he,Result.andThen_ok]
def giv (F:Fact):List Lf→List Value→Prop
 | [],[]=>True
 | l::ls,v::vs=>Gives F l v∧giv F ls vs
 | _,_=>False
theorem zgG {β:Loc} {W:World}:∀{ls:List Lf} {us vs:List Value},giv F ls us→oks F β ls vs W→vs=us
 | [],[],[],_,_=>rfl
 | l::ls,u::us,v::vs,h,h2=>by rw [(h.1 β v W).1 h2.1,zgG h.2 h2.2]
 | [],_::_,_,h,_=>h.elim
 | _::_,[],_,h,_=>h.elim
 | [],[],_::_,_,h2=>h2.elim
 | _::_,_::_,[],_,h2=>h2.elim
theorem e_eqV {ls ms:List Lf} {o:Lf} {x y:Int×Int×Int} {neg:Bool} (hx:giv F ls (vcs x)) (hy:giv F ms (vcs y)) (ho:Gives F o (.bool (if neg then !decide (x=y) else decide (x=y)))):Ent.sound K Tryz.prog F (.bin (if neg then .neq else .eql) 24 (.o (.g ls)) (.o (.g ms)) (LF o)):=
 e_eqG (by kernel_rfl) (fun _ _ _ h=>zgG hx h) (fun _ _ _ h=>zgG hy h) (fun w=>zob 9998 x y w) ho
end
end Go.Proofs.YtjcegdldgjphiaaGreatDoor
namespace Go.Proofs.YtjcegdldgjphiaaGreatDoor
open Go.RowKit Go.Shelf
theorem zfc {α:Type} {l m:List α} {n:Nat} {x y:α} (h:l.take n=m.take n) (hx:l[n]?=some x) (hy:m[n]?=some y) (he:x=y):l.take (n+1)=m.take (n+1):=by
 rw [List.take_add_one,List.take_add_one,h,hx,hy,he]
structure w_sameints_A_T where
 i:Int
def zF:List Atom:=[.sl 0 (yh 0),.sl 1 (yh 1),.sl 5 (yh 5),.sl 6 (yh 0),.sl 7 (yh 2),.sl 8 (yh 1),.sl 9 (yh 3),.sl 10 (yh 4)]
def z6:LoopS:=⟨4,[.sl 0 (yh 0),.sl 1 (yh 1),.sl 5 (.o (.c (.k (.int .i64 0)))),.sl 6 (yh 0),.sl 7 (yh 2),.sl 8 (yh 1),.sl 9 (yh 3),.sl 10 (yh 4)],(.x 0),[.sl 0 (yh 0),.sl 1 (yh 1),.sl 6 (yh 0),.sl 7 (yh 2),.sl 8 (yh 1),.sl 9 (yh 3),.sl 10 (yh 4)]⟩
theorem zcW {w0:World} (l:(List Int)) (z2:(List Int)) (v1:Int) (v2:Int) (v3:Bool) (h4:v3=false) (i:Int) (v501:Int) (v502:Bool) (n504:Nat) (x505:Int) (n508:Nat) (x509:Int) (v512:Bool) (v514:Int) (e501:((l.length:Int))=v501) (e502:(decide (i<v501))=v502) (e512:((x505 != x509))=v512) (e514:(IntKind.i64.wrap (i+(1:Int)))=v514) (h503:v502=true) (s506:i=(n504:Int)) (s507:l[n504]?=some x505) (s510:i=(n508:Int)) (s511:z2[n508]?=some x509) (h513:v512=false) (i':Int) (q0:(v514)=i') (R:Frm) (hR:R.pm=⟨ntOf Tryz.prog 37,[],[]⟩):Goes (KN w0) Tryz.prog R (lp Tryz.prog 37 0) (FL [pLs cI l,pLs cI z2,pI v1,pI v2,pB v3,pI i] []) zF .n (FL [pLs cI l,pLs cI z2,pI v1,pI v2,pB v3,pI i'] []) zF:=
 goes (x:=.n) (y:=.n) (Fb:=FL [pLs cI l,pLs cI z2,pI v1,pI v2,pB v3,pI i,pI v501,pB v502,pP (cI x505),pI x505,pP (cI x509),pI x509,pB v512,pI v514] []) (stb:=zF) (tl:=[.sl 0 (yh 0),.sl 1 (yh 1),.sl 5 (yh 13),.sl 6 (yh 0),.sl 7 (yh 2),.sl 8 (yh 1),.sl 9 (yh 3),.sl 10 (yh 4)]) (C:=((10004,.fb 4 false) ::
  (1005002,.op (.len [22] 3) [yh 0] [] (yh 6)) ::
  (1005003,.bin .lss 3 (yh 5) (yh 6) (yh 7)) ::
  (10007,.fb 7 true) ::
  (1005006,.op (.ia 22) [yh 0,yh 5] [] (yh 8)) ::
  (1005007,.op (.ld 3) [yh 8] [] (yh 9)) ::
  (1005010,.op (.ia 22) [yh 1,yh 5] [] (yh 10)) ::
  (1005011,.op (.ld 3) [yh 10] [] (yh 11)) ::
  (1005012,.bin .neq 3 (yh 9) (yh 11) (yh 12)) ::
  (10012,.fb 12 false) ::
  (1005014,.bin .add 3 (yh 5) (LF (.k (.int .i64 1))) (yh 13)) ::
  []:List (Nat×Ent))) (H:=.no) 5000 (zipA.imp ⟨z_c yy,z_c yy,z_c yy,z_c yy,z_c yy,z_c yy,z_c yy,z_c yy,trivial⟩) (zf ⟨(zt zo),(zt zo),zb,zb,zb,zb,zb,zb,(zbf (zo _)),zb,(zbf (zo _)),zb,zb,zb,trivial⟩) ⟨e_fbv h4,
  qp (E:=3) (by kernel_rfl) (zc rfl) (za (by rw [← e501];rfl)),
  e_bin (za rfl) (za rfl) (za rfl) (r_cmp (congrArg some e502)),
  e_fbv h503,
  e_iaL (E:=3) (z:=1) (fun _=>rfl) (by kernel_rfl) (by kernel_rfl) (zc rfl) (za rfl) s506 s507 (zc rfl),
  e_ldP (by kernel_rfl) (zc rfl) (zc rfl),
  e_iaL (E:=3) (z:=1) (fun _=>rfl) (by kernel_rfl) (by kernel_rfl) (zc rfl) (za rfl) s510 s511 (zc rfl),
  e_ldP (by kernel_rfl) (zc rfl) (zc rfl),
  e_bin (za rfl) (za rfl) (za rfl) (r_cmp (congrArg some e512)),
  e_fbv h513,
  e_bin (za rfl) zd (za rfl) (r_ar (congrArg some e514)),
  trivial⟩ mixed hR trivial (fun _ _ _ hs=>by cases hs) (by kernel_rfl:zz (KN w0) Tryz.prog _ .no ⟨ntOf Tryz.prog 37,[],[]⟩ (lp Tryz.prog 37 0) 5000 zF .n [.sl 0 (yh 0),.sl 1 (yh 1),.sl 5 (yh 13),.sl 6 (yh 0),.sl 7 (yh 2),.sl 8 (yh 1),.sl 9 (yh 3),.sl 10 (yh 4)]=true) rfl (zipA.imp ⟨z_c yy,z_c yy,z_c (fun β v W h=>(zc rfl β v W).2 (by rw [← q0];exact h)),z_c yy,z_c yy,z_c yy,z_c yy,z_c yy,trivial⟩)
theorem zcX {w0:World} (l:(List Int)) (z2:(List Int)) (v1:Int) (v2:Int) (v3:Bool) (h4:v3=false) (i:Int) (v501:Int) (v502:Bool) (e501:((l.length:Int))=v501) (e502:(decide (i<v501))=v502) (h503:v502=false) (F:Fact) (u0:F.c 0=pLs cI l) (u1:F.c 1=pLs cI z2) (u2:F.c 2=pI v1) (u3:F.c 3=pI v2) (u4:F.c 4=pB v3) (R:Frm) (hR:R.pm=⟨ntOf Tryz.prog 37,[],[]⟩):Goes (KN w0) Tryz.prog R (lp Tryz.prog 37 0) (FL [pLs cI l,pLs cI z2,pI v1,pI v2,pB v3,pI i] []) zF (.x 0) F z6.out:=
 goes (x:=(.x 0)) (y:=(.x 0)) (Fb:=FL [pLs cI l,pLs cI z2,pI v1,pI v2,pB v3,pI i,pI v501,pB v502] []) (stb:=zF) (tl:=[.sl 0 (yh 0),.sl 1 (yh 1),.sl 6 (yh 0),.sl 7 (yh 2),.sl 8 (yh 1),.sl 9 (yh 3),.sl 10 (yh 4)]) (C:=((10004,.fb 4 false) ::
  (1005002,.op (.len [22] 3) [yh 0] [] (yh 6)) ::
  (1005003,.bin .lss 3 (yh 5) (yh 6) (yh 7)) ::
  (10007,.fb 7 false) ::
  []:List (Nat×Ent))) (H:=.no) 5000 (zipA.imp ⟨z_c yy,z_c yy,z_c yy,z_c yy,z_c yy,z_c yy,z_c yy,z_c yy,trivial⟩) (zf ⟨(zt zo),(zt zo),zb,zb,zb,zb,zb,zb,trivial⟩) ⟨e_fbv h4,
  qp (E:=3) (by kernel_rfl) (zc rfl) (za (by rw [← e501];rfl)),
  e_bin (za rfl) (za rfl) (za rfl) (r_cmp (congrArg some e502)),
  e_fbv h503,
  trivial⟩ mixed hR trivial (fun _ _ _ hs=>by cases hs) (by kernel_rfl:zz (KN w0) Tryz.prog _ .no ⟨ntOf Tryz.prog 37,[],[]⟩ (lp Tryz.prog 37 0) 5000 zF (.x 0) [.sl 0 (yh 0),.sl 1 (yh 1),.sl 6 (yh 0),.sl 7 (yh 2),.sl 8 (yh 1),.sl 9 (yh 3),.sl 10 (yh 4)]=true) rfl (zipA.imp ⟨z_c (fun β v W h=>(zc u0 β v W).2 h),z_c (fun β v W h=>(zc u1 β v W).2 h),z_c (fun β v W h=>(zc u0 β v W).2 h),z_c (fun β v W h=>(zc u2 β v W).2 h),z_c (fun β v W h=>(zc u1 β v W).2 h),z_c (fun β v W h=>(zc u3 β v W).2 h),z_c (fun β v W h=>(zc u4 β v W).2 h),trivial⟩)
def zdf (l:(List Int)) (z2:(List Int)) (v1:Int) (v2:Int) (v3:Bool) (t:w_sameints_A_T):Prop:=(∃(v501:Int),∃(v502:Bool),(((l.length:Int))=v501)∧((decide (t.i<v501))=v502)∧(v502=false)∧True)
def zde (l:(List Int)) (z2:(List Int)) (v1:Int) (v2:Int) (v3:Bool) (t t':w_sameints_A_T):Prop:=(∃(v501:Int),∃(v502:Bool),∃(n504:Nat),∃(x505:Int),∃(n508:Nat),∃(x509:Int),∃(v512:Bool),∃(v514:Int),(((l.length:Int))=v501)∧((decide (t.i<v501))=v502)∧(((x505 != x509))=v512)∧((IntKind.i64.wrap (t.i+(1:Int)))=v514)∧(v502=true)∧(t.i=(n504:Int))∧(l[n504]?=some x505)∧(t.i=(n508:Int))∧(z2[n508]?=some x509)∧(v512=false)∧((v514)=t'.i)∧True)
theorem zbV {w0:World} (l:(List Int)) (z2:(List Int)) (v1:Int) (v2:Int) (v3:Bool) (h4:v3=false) {F:Fact} (u0:F.c 0=pLs cI l) (u1:F.c 1=pLs cI z2) (u2:F.c 2=pI v1) (u3:F.c 3=pI v2) (u4:F.c 4=pB v3) (R:Frm) (hR:R.pm=⟨ntOf Tryz.prog 37,[],[]⟩) (J:w_sameints_A_T→Prop) (m:w_sameints_A_T→Nat) (hJ:J { i:=(0:Int) }) (rounds:∀t,J t→zdf l z2 v1 v2 v3 t ∨∃t',zde l z2 v1 v2 v3 t t'∧m t'<m t∧J t'):zg (KN w0) Tryz.prog F R z6 (lp Tryz.prog 37 0):=by
 refine zP (T:=w_sameints_A_T) (fun t=>FL [pLs cI l,pLs cI z2,pI v1,pI v2,pB v3,pI t.i] []) J m { i:=(0:Int) } zF hJ (zipA.imp ⟨z_c (fun β v W h=>(zc u0 β v W).1 h),z_c (fun β v W h=>(zc u1 β v W).1 h),z_c yy,z_c (fun β v W h=>(zc u0 β v W).1 h),z_c (fun β v W h=>(zc u2 β v W).1 h),z_c (fun β v W h=>(zc u1 β v W).1 h),z_c (fun β v W h=>(zc u3 β v W).1 h),z_c (fun β v W h=>(zc u4 β v W).1 h),trivial⟩) rfl fun t ht=>?_
 rcases rounds t ht with hz_ | ⟨t',hz_,hm_,hj_⟩
 ·refine .inl ?_
  rcases hz_ with ⟨v501,v502,e501,e502,h503,_⟩
  ·exact zcX  l z2 v1 v2 v3 h4 t.i v501 v502 e501 e502 h503  F u0 u1 u2 u3 u4  R hR
 ·refine .inr ⟨t',hm_,hj_,?_⟩
  rcases hz_ with ⟨v501,v502,n504,x505,n508,x509,v512,v514,e501,e502,e512,e514,h503,s506,s507,s510,s511,h513,q0,_⟩
  ·exact zcW  l z2 v1 v2 v3 h4 t.i v501 v502 n504 x505 n508 x509 v512 v514 e501 e502 e512 e514 h503 s506 s507 s510 s511 h513 t'.i q0 R hR
theorem zcV {w0:World} (l:(List Int)) (z2:(List Int)) (v1:Int) (v2:Int) (v3:Bool) (h4:v3=false) {F:Fact} (u0:F.c 0=pLs cI l) (u1:F.c 1=pLs cI z2) (u2:F.c 2=pI v1) (u3:F.c 3=pI v2) (u4:F.c 4=pB v3) (R:Frm) (hR:R.pm=⟨ntOf Tryz.prog 37,[],[]⟩) (hlb:l.length<9223372036854775808) (hlm:l.length=z2.length) (hq:l=z2):zg (KN w0) Tryz.prog F R z6 (lp Tryz.prog 37 0):=by
 refine zbV  l z2 v1 v2 v3 h4  u0 u1 u2 u3 u4 R hR (fun ⟨i⟩=>∃n:Nat,i=(n:Int)∧n≤l.length∧l.take n=z2.take n) (fun ⟨i⟩=>((l.length:Int) - i).toNat) ⟨0,rfl,Nat.zero_le _,rfl⟩ fun t hJ=>?_
 obtain ⟨i⟩:=t
 dsimp only at hJ
 obtain ⟨n,hi,hn,ht⟩:=hJ
 obtain ⟨v501,e501⟩:=yx ((l.length:Int))
 obtain ⟨v502,e502⟩:=yx (decide (i<v501))
 cases h503:v502 with
 | true =>
  obtain ⟨n504,x505,s506,s507⟩:∃(n504:Nat) (x505:Int),i=(n504:Int)∧l[n504]?=some x505:=by (have hz:=e501;have dh503:=of_decide_eq_true (e502.trans h503);have hlt:n<l.length:=(by omega);exact ⟨n,_,hi,List.getElem?_eq_getElem (by omega)⟩)
  obtain ⟨n508,x509,s510,s511⟩:∃(n508:Nat) (x509:Int),i=(n508:Int)∧z2[n508]?=some x509:=by (have hz:=e501;have dh503:=of_decide_eq_true (e502.trans h503);have hlt:n<l.length:=(by omega);exact ⟨n,_,hi,List.getElem?_eq_getElem (by omega)⟩)
  obtain ⟨v512,e512⟩:=yx ((x505 != x509))
  cases h513:v512 with
  | true =>
   exfalso
   have hz:=e501
   have dh503:=of_decide_eq_true (e502.trans h503)
   have dh513:=bne_iff_ne.1 (e512.trans h513)
   have k0:n504=n:=(by omega)
   have k1:n508=n:=(by omega)
   have g0:l[n]?=some x505:=(by rw [← k0];exact s507)
   have g1:z2[n]?=some x509:=(by rw [← k1];exact s511)
   subst hq
   rw [g0] at g1
   injection g1 with g1
   exact dh513 g1
  | false =>
   obtain ⟨v514,e514⟩:=yx (IntKind.i64.wrap (i+(1:Int)))
   refine .inr ⟨⟨v514⟩,⟨v501,v502,n504,x505,n508,x509,v512,v514,e501,e502,e512,e514,h503,s506,s507,s510,s511,h513,rfl,trivial⟩,?_,?_⟩
   all_goals (have hz:=e501;have dh503:=of_decide_eq_true (e502.trans h503);have dh513:=bne_eq_false_iff_eq.1 (e512.trans h513);have k0:n504=n:=(by omega);have k1:n508=n:=(by omega);have g0:l[n]?=some x505:=(by rw [← k0];exact s507);have g1:z2[n]?=some x509:=(by rw [← k1];exact s511);have x4:v514=((n+1:Nat):Int):=(by rw [← e514,hi,wri (by omega)];omega))
   ·show ((l.length:Int) - v514).toNat<((l.length:Int) - i).toNat
    omega
   ·exact ⟨n+1,x4,by omega,zfc ht g0 g1 dh513⟩
 | false =>
  refine .inl (⟨v501,v502,e501,e502,h503,trivial⟩)
structure w_sameints_B_T where
 i:Int
def zG:List Atom:=[.sl 0 (yh 0),.sl 1 (yh 1),.sl 5 (yh 5),.sl 6 (yh 0),.sl 7 (yh 2),.sl 8 (yh 1),.sl 9 (yh 3),.sl 10 (yh 4)]
def z7:LoopS:=⟨4,[.sl 0 (yh 0),.sl 1 (yh 1),.sl 5 (.o (.c (.k (.int .i64 0)))),.sl 6 (yh 0),.sl 7 (yh 2),.sl 8 (yh 1),.sl 9 (yh 3),.sl 10 (yh 4)],.r,[.sl 0 (yh 0),.sl 1 (yh 1),.sl 4 (yh 5),.sl 6 (yh 0),.sl 7 (yh 2),.sl 8 (yh 1),.sl 9 (yh 3),.sl 10 (yh 4)]⟩
theorem zcZ {w0:World} (l:(List Int)) (z2:(List Int)) (v1:Int) (v2:Int) (v3:Bool) (h4:v3=false) (i:Int) (v501:Int) (v502:Bool) (n504:Nat) (x505:Int) (n508:Nat) (x509:Int) (v512:Bool) (e501:((l.length:Int))=v501) (e502:(decide (i<v501))=v502) (e512:((x505 != x509))=v512) (h503:v502=true) (s506:i=(n504:Int)) (s507:l[n504]?=some x505) (s510:i=(n508:Int)) (s511:z2[n508]?=some x509) (h513:v512=true) (o:Bool) (F:Fact) (u0:F.c 0=pLs cI l) (u1:F.c 1=pLs cI z2) (u2:F.c 2=pI v1) (u3:F.c 3=pI v2) (u4:F.c 4=pB v3) (u5:F.c 5=pB o) (q0:(false)=o) (R:Frm) (hR:R.pm=⟨ntOf Tryz.prog 37,[],[]⟩):Goes (KN w0) Tryz.prog R (lp Tryz.prog 37 0) (FL [pLs cI l,pLs cI z2,pI v1,pI v2,pB v3,pI i] []) zG .r F z7.out:=
 goes (x:=.r) (y:=.r) (Fb:=FL [pLs cI l,pLs cI z2,pI v1,pI v2,pB v3,pI i,pI v501,pB v502,pP (cI x505),pI x505,pP (cI x509),pI x509,pB v512] []) (stb:=zG) (tl:=[.sl 0 (yh 0),.sl 1 (yh 1),.sl 4 (.o (.c (.k (.bool false)))),.sl 6 (yh 0),.sl 7 (yh 2),.sl 8 (yh 1),.sl 9 (yh 3),.sl 10 (yh 4)]) (C:=((10004,.fb 4 false) ::
  (1005002,.op (.len [22] 3) [yh 0] [] (yh 6)) ::
  (1005003,.bin .lss 3 (yh 5) (yh 6) (yh 7)) ::
  (10007,.fb 7 true) ::
  (1005006,.op (.ia 22) [yh 0,yh 5] [] (yh 8)) ::
  (1005007,.op (.ld 3) [yh 8] [] (yh 9)) ::
  (1005010,.op (.ia 22) [yh 1,yh 5] [] (yh 10)) ::
  (1005011,.op (.ld 3) [yh 10] [] (yh 11)) ::
  (1005012,.bin .neq 3 (yh 9) (yh 11) (yh 12)) ::
  (10012,.fb 12 true) ::
  []:List (Nat×Ent))) (H:=.no) 5000 (zipA.imp ⟨z_c yy,z_c yy,z_c yy,z_c yy,z_c yy,z_c yy,z_c yy,z_c yy,trivial⟩) (zf ⟨(zt zo),(zt zo),zb,zb,zb,zb,zb,zb,(zbf (zo _)),zb,(zbf (zo _)),zb,zb,trivial⟩) ⟨e_fbv h4,
  qp (E:=3) (by kernel_rfl) (zc rfl) (za (by rw [← e501];rfl)),
  e_bin (za rfl) (za rfl) (za rfl) (r_cmp (congrArg some e502)),
  e_fbv h503,
  e_iaL (E:=3) (z:=1) (fun _=>rfl) (by kernel_rfl) (by kernel_rfl) (zc rfl) (za rfl) s506 s507 (zc rfl),
  e_ldP (by kernel_rfl) (zc rfl) (zc rfl),
  e_iaL (E:=3) (z:=1) (fun _=>rfl) (by kernel_rfl) (by kernel_rfl) (zc rfl) (za rfl) s510 s511 (zc rfl),
  e_ldP (by kernel_rfl) (zc rfl) (zc rfl),
  e_bin (za rfl) (za rfl) (za rfl) (r_cmp (congrArg some e512)),
  e_fbv h513,
  trivial⟩ mixed hR trivial (fun _ _ _ hs=>by cases hs) (by kernel_rfl:zz (KN w0) Tryz.prog _ .no ⟨ntOf Tryz.prog 37,[],[]⟩ (lp Tryz.prog 37 0) 5000 zG .r [.sl 0 (yh 0),.sl 1 (yh 1),.sl 4 (.o (.c (.k (.bool false)))),.sl 6 (yh 0),.sl 7 (yh 2),.sl 8 (yh 1),.sl 9 (yh 3),.sl 10 (yh 4)]=true) rfl (zipA.imp ⟨z_c (fun β v W h=>(zc u0 β v W).2 h),z_c (fun β v W h=>(zc u1 β v W).2 h),z_c (fun β v W h=>(zc u5 β v W).2 (by rw [← q0];exact h)),z_c (fun β v W h=>(zc u0 β v W).2 h),z_c (fun β v W h=>(zc u2 β v W).2 h),z_c (fun β v W h=>(zc u1 β v W).2 h),z_c (fun β v W h=>(zc u3 β v W).2 h),z_c (fun β v W h=>(zc u4 β v W).2 h),trivial⟩)
theorem zc0 {w0:World} (l:(List Int)) (z2:(List Int)) (v1:Int) (v2:Int) (v3:Bool) (h4:v3=false) (i:Int) (v501:Int) (v502:Bool) (n504:Nat) (x505:Int) (n508:Nat) (x509:Int) (v512:Bool) (v514:Int) (e501:((l.length:Int))=v501) (e502:(decide (i<v501))=v502) (e512:((x505 != x509))=v512) (e514:(IntKind.i64.wrap (i+(1:Int)))=v514) (h503:v502=true) (s506:i=(n504:Int)) (s507:l[n504]?=some x505) (s510:i=(n508:Int)) (s511:z2[n508]?=some x509) (h513:v512=false) (i':Int) (q0:(v514)=i') (R:Frm) (hR:R.pm=⟨ntOf Tryz.prog 37,[],[]⟩):Goes (KN w0) Tryz.prog R (lp Tryz.prog 37 0) (FL [pLs cI l,pLs cI z2,pI v1,pI v2,pB v3,pI i] []) zG .n (FL [pLs cI l,pLs cI z2,pI v1,pI v2,pB v3,pI i'] []) zG:=
 goes (x:=.n) (y:=.n) (Fb:=FL [pLs cI l,pLs cI z2,pI v1,pI v2,pB v3,pI i,pI v501,pB v502,pP (cI x505),pI x505,pP (cI x509),pI x509,pB v512,pI v514] []) (stb:=zG) (tl:=[.sl 0 (yh 0),.sl 1 (yh 1),.sl 5 (yh 13),.sl 6 (yh 0),.sl 7 (yh 2),.sl 8 (yh 1),.sl 9 (yh 3),.sl 10 (yh 4)]) (C:=((10004,.fb 4 false) ::
  (1005002,.op (.len [22] 3) [yh 0] [] (yh 6)) ::
  (1005003,.bin .lss 3 (yh 5) (yh 6) (yh 7)) ::
  (10007,.fb 7 true) ::
  (1005006,.op (.ia 22) [yh 0,yh 5] [] (yh 8)) ::
  (1005007,.op (.ld 3) [yh 8] [] (yh 9)) ::
  (1005010,.op (.ia 22) [yh 1,yh 5] [] (yh 10)) ::
  (1005011,.op (.ld 3) [yh 10] [] (yh 11)) ::
  (1005012,.bin .neq 3 (yh 9) (yh 11) (yh 12)) ::
  (10012,.fb 12 false) ::
  (1005014,.bin .add 3 (yh 5) (LF (.k (.int .i64 1))) (yh 13)) ::
  []:List (Nat×Ent))) (H:=.no) 5000 (zipA.imp ⟨z_c yy,z_c yy,z_c yy,z_c yy,z_c yy,z_c yy,z_c yy,z_c yy,trivial⟩) (zf ⟨(zt zo),(zt zo),zb,zb,zb,zb,zb,zb,(zbf (zo _)),zb,(zbf (zo _)),zb,zb,zb,trivial⟩) ⟨e_fbv h4,
  qp (E:=3) (by kernel_rfl) (zc rfl) (za (by rw [← e501];rfl)),
  e_bin (za rfl) (za rfl) (za rfl) (r_cmp (congrArg some e502)),
  e_fbv h503,
  e_iaL (E:=3) (z:=1) (fun _=>rfl) (by kernel_rfl) (by kernel_rfl) (zc rfl) (za rfl) s506 s507 (zc rfl),
  e_ldP (by kernel_rfl) (zc rfl) (zc rfl),
  e_iaL (E:=3) (z:=1) (fun _=>rfl) (by kernel_rfl) (by kernel_rfl) (zc rfl) (za rfl) s510 s511 (zc rfl),
  e_ldP (by kernel_rfl) (zc rfl) (zc rfl),
  e_bin (za rfl) (za rfl) (za rfl) (r_cmp (congrArg some e512)),
  e_fbv h513,
  e_bin (za rfl) zd (za rfl) (r_ar (congrArg some e514)),
  trivial⟩ mixed hR trivial (fun _ _ _ hs=>by cases hs) (by kernel_rfl:zz (KN w0) Tryz.prog _ .no ⟨ntOf Tryz.prog 37,[],[]⟩ (lp Tryz.prog 37 0) 5000 zG .n [.sl 0 (yh 0),.sl 1 (yh 1),.sl 5 (yh 13),.sl 6 (yh 0),.sl 7 (yh 2),.sl 8 (yh 1),.sl 9 (yh 3),.sl 10 (yh 4)]=true) rfl (zipA.imp ⟨z_c yy,z_c yy,z_c (fun β v W h=>(zc rfl β v W).2 (by rw [← q0];exact h)),z_c yy,z_c yy,z_c yy,z_c yy,z_c yy,trivial⟩)
def zdh (l:(List Int)) (z2:(List Int)) (v1:Int) (v2:Int) (v3:Bool) (t:w_sameints_B_T) (o:Bool):Prop:=(∃(v501:Int),∃(v502:Bool),∃(n504:Nat),∃(x505:Int),∃(n508:Nat),∃(x509:Int),∃(v512:Bool),(((l.length:Int))=v501)∧((decide (t.i<v501))=v502)∧(((x505 != x509))=v512)∧(v502=true)∧(t.i=(n504:Int))∧(l[n504]?=some x505)∧(t.i=(n508:Int))∧(z2[n508]?=some x509)∧(v512=true)∧((false)=o)∧True)
def zdg (l:(List Int)) (z2:(List Int)) (v1:Int) (v2:Int) (v3:Bool) (t t':w_sameints_B_T):Prop:=(∃(v501:Int),∃(v502:Bool),∃(n504:Nat),∃(x505:Int),∃(n508:Nat),∃(x509:Int),∃(v512:Bool),∃(v514:Int),(((l.length:Int))=v501)∧((decide (t.i<v501))=v502)∧(((x505 != x509))=v512)∧((IntKind.i64.wrap (t.i+(1:Int)))=v514)∧(v502=true)∧(t.i=(n504:Int))∧(l[n504]?=some x505)∧(t.i=(n508:Int))∧(z2[n508]?=some x509)∧(v512=false)∧((v514)=t'.i)∧True)
theorem zbW {w0:World} (l:(List Int)) (z2:(List Int)) (v1:Int) (v2:Int) (v3:Bool) (h4:v3=false) (o:Bool) {F:Fact} (u0:F.c 0=pLs cI l) (u1:F.c 1=pLs cI z2) (u2:F.c 2=pI v1) (u3:F.c 3=pI v2) (u4:F.c 4=pB v3) (u5:F.c 5=pB o) (R:Frm) (hR:R.pm=⟨ntOf Tryz.prog 37,[],[]⟩) (J:w_sameints_B_T→Prop) (m:w_sameints_B_T→Nat) (hJ:J { i:=(0:Int) }) (rounds:∀t,J t→zdh l z2 v1 v2 v3 t o∨∃t',zdg l z2 v1 v2 v3 t t'∧m t'<m t∧J t'):zg (KN w0) Tryz.prog F R z7 (lp Tryz.prog 37 0):=by
 refine zP (T:=w_sameints_B_T) (fun t=>FL [pLs cI l,pLs cI z2,pI v1,pI v2,pB v3,pI t.i] []) J m { i:=(0:Int) } zG hJ (zipA.imp ⟨z_c (fun β v W h=>(zc u0 β v W).1 h),z_c (fun β v W h=>(zc u1 β v W).1 h),z_c yy,z_c (fun β v W h=>(zc u0 β v W).1 h),z_c (fun β v W h=>(zc u2 β v W).1 h),z_c (fun β v W h=>(zc u1 β v W).1 h),z_c (fun β v W h=>(zc u3 β v W).1 h),z_c (fun β v W h=>(zc u4 β v W).1 h),trivial⟩) rfl fun t ht=>?_
 rcases rounds t ht with hz_ | ⟨t',hz_,hm_,hj_⟩
 ·refine .inl ?_
  rcases hz_ with ⟨v501,v502,n504,x505,n508,x509,v512,e501,e502,e512,h503,s506,s507,s510,s511,h513,q0,_⟩
  ·exact zcZ  l z2 v1 v2 v3 h4 t.i v501 v502 n504 x505 n508 x509 v512 e501 e502 e512 h503 s506 s507 s510 s511 h513 o F u0 u1 u2 u3 u4 u5 q0 R hR
 ·refine .inr ⟨t',hm_,hj_,?_⟩
  rcases hz_ with ⟨v501,v502,n504,x505,n508,x509,v512,v514,e501,e502,e512,e514,h503,s506,s507,s510,s511,h513,q0,_⟩
  ·exact zc0  l z2 v1 v2 v3 h4 t.i v501 v502 n504 x505 n508 x509 v512 v514 e501 e502 e512 e514 h503 s506 s507 s510 s511 h513 t'.i q0 R hR
theorem zcY {w0:World} (l:(List Int)) (z2:(List Int)) (v1:Int) (v2:Int) (v3:Bool) (h4:v3=false) (o:Bool) {F:Fact} (u0:F.c 0=pLs cI l) (u1:F.c 1=pLs cI z2) (u2:F.c 2=pI v1) (u3:F.c 3=pI v2) (u4:F.c 4=pB v3) (u5:F.c 5=pB o) (R:Frm) (hR:R.pm=⟨ntOf Tryz.prog 37,[],[]⟩) (hlb:l.length<9223372036854775808) (hlm:l.length=z2.length) (hq:¬ l=z2) (hO:false=o):zg (KN w0) Tryz.prog F R z7 (lp Tryz.prog 37 0):=by
 refine zbW  l z2 v1 v2 v3 h4 o u0 u1 u2 u3 u4 u5 R hR (fun ⟨i⟩=>∃n:Nat,i=(n:Int)∧n≤l.length∧l.take n=z2.take n) (fun ⟨i⟩=>((l.length:Int) - i).toNat) ⟨0,rfl,Nat.zero_le _,rfl⟩ fun t hJ=>?_
 obtain ⟨i⟩:=t
 dsimp only at hJ
 obtain ⟨n,hi,hn,ht⟩:=hJ
 obtain ⟨v501,e501⟩:=yx ((l.length:Int))
 obtain ⟨v502,e502⟩:=yx (decide (i<v501))
 cases h503:v502 with
 | true =>
  obtain ⟨n504,x505,s506,s507⟩:∃(n504:Nat) (x505:Int),i=(n504:Int)∧l[n504]?=some x505:=by (have hz:=e501;have dh503:=of_decide_eq_true (e502.trans h503);have hlt:n<l.length:=(by omega);exact ⟨n,_,hi,List.getElem?_eq_getElem (by omega)⟩)
  obtain ⟨n508,x509,s510,s511⟩:∃(n508:Nat) (x509:Int),i=(n508:Int)∧z2[n508]?=some x509:=by (have hz:=e501;have dh503:=of_decide_eq_true (e502.trans h503);have hlt:n<l.length:=(by omega);exact ⟨n,_,hi,List.getElem?_eq_getElem (by omega)⟩)
  obtain ⟨v512,e512⟩:=yx ((x505 != x509))
  cases h513:v512 with
  | true =>
   refine .inl (⟨v501,v502,n504,x505,n508,x509,v512,e501,e502,e512,h503,s506,s507,s510,s511,h513,?_,trivial⟩)
   exact hO
  | false =>
   obtain ⟨v514,e514⟩:=yx (IntKind.i64.wrap (i+(1:Int)))
   refine .inr ⟨⟨v514⟩,⟨v501,v502,n504,x505,n508,x509,v512,v514,e501,e502,e512,e514,h503,s506,s507,s510,s511,h513,rfl,trivial⟩,?_,?_⟩
   all_goals (have hz:=e501;have dh503:=of_decide_eq_true (e502.trans h503);have dh513:=bne_eq_false_iff_eq.1 (e512.trans h513);have k0:n504=n:=(by omega);have k1:n508=n:=(by omega);have g0:l[n]?=some x505:=(by rw [← k0];exact s507);have g1:z2[n]?=some x509:=(by rw [← k1];exact s511);have x4:v514=((n+1:Nat):Int):=(by rw [← e514,hi,wri (by omega)];omega))
   ·show ((l.length:Int) - v514).toNat<((l.length:Int) - i).toNat
    omega
   ·exact ⟨n+1,x4,by omega,zfc ht g0 g1 dh513⟩
 | false =>
  exfalso
  have hz:=e501
  have dh503:=of_decide_eq_false (e502.trans h503)
  have hnl:n=l.length:=(by omega)
  rw [hnl,List.take_length,hlm,List.take_length] at ht
  exact hq ht
theorem zez {w0:World} (l:(List Int)) (z2:(List Int)) (v1:Int) (v2:Int) (v3:Bool) (e1:((l.length:Int))=v1) (e2:((z2.length:Int))=v2) (e3:((v1 != v2))=v3) (h4:v3=true):Fun (KN w0) Tryz.prog 37 [.o (.c (pLs cI l)),.o (.c (pLs cI z2))] (.o (.c (pV (.bool false)))):=
 zi (zl (F:=FL [pLs cI l,pLs cI z2,pI v1,pI v2,pB v3] []) (C:=[(1000002,.op (.len [22] 3) [yh 0] [] (yh 2)),
  (1000004,.op (.len [22] 3) [yh 1] [] (yh 3)),
  (1000005,.bin .neq 3 (yh 2) (yh 3) (yh 4)),
  (10004,.fb 4 true)]) (k:=⟨37,[yh 0,yh 1],[],.o (.c (.k (.bool false))),[]⟩) 0 (zf ⟨(zt zo),(zt zo),zb,zb,zb,trivial⟩) ⟨qp (E:=3) (by kernel_rfl) (zc rfl) (za (by rw [← e1];rfl)),
  qp (E:=3) (by kernel_rfl) (zc rfl) (za (by rw [← e2];rfl)),
  e_bin (za rfl) (za rfl) (za rfl) (r_cmp (congrArg some e3)),
  e_fbv h4,
  trivial⟩ mixed (by kernel_rfl))
theorem zeA {w0:World} (l:(List Int)) (z2:(List Int)) (v1:Int) (v2:Int) (v3:Bool) (o:Bool) (e1:((l.length:Int))=v1) (e2:((z2.length:Int))=v2) (e3:((v1 != v2))=v3) (h4:v3=false) (L_w_sameints_B:∀R:Frm,R.pm=⟨ntOf Tryz.prog 37,[],[]⟩→zg (KN w0) Tryz.prog (FL [pLs cI l,pLs cI z2,pI v1,pI v2,pB v3,pB o] []) R z7 (lp Tryz.prog 37 0)):Fun (KN w0) Tryz.prog 37 [.o (.c (pLs cI l)),.o (.c (pLs cI z2))] (.o (.c (pB o))):=
 zi (z8 (F:=FL [pLs cI l,pLs cI z2,pI v1,pI v2,pB v3,pB o] []) (C:=[(1000002,.op (.len [22] 3) [yh 0] [] (yh 2)),
  (1000004,.op (.len [22] 3) [yh 1] [] (yh 3)),
  (1000005,.bin .neq 3 (yh 2) (yh 3) (yh 4)),
  (10004,.fb 4 false)]) (k:=⟨37,[yh 0,yh 1],[],yh 5,[]⟩) ⟨[z7],[],0⟩ [] 0 (zf ⟨(zt zo),(zt zo),zb,zb,zb,zb,trivial⟩) ⟨qp (E:=3) (by kernel_rfl) (zc rfl) (za (by rw [← e1];rfl)),
  qp (E:=3) (by kernel_rfl) (zc rfl) (za (by rw [← e2];rfl)),
  e_bin (za rfl) (za rfl) (za rfl) (r_cmp (congrArg some e3)),
  e_fbv h4,
  trivial⟩ mixed trivial (fun R hR p hp s hs=>by
 have hl:zH (qg Tryz.prog 37)=[(4,lp Tryz.prog 37 0)]:=by kernel_rfl
 rw [hl] at hp
 simp only [List.mem_cons,List.not_mem_nil,or_false] at hp
 rcases hp with rfl
 ·have e:s=z7:=(Option.some.inj hs).symm
  subst e;exact L_w_sameints_B R hR) (by kernel_rfl))
theorem zeB {w0:World} (l:(List Int)) (z2:(List Int)) (v1:Int) (v2:Int) (v3:Bool) (e1:((l.length:Int))=v1) (e2:((z2.length:Int))=v2) (e3:((v1 != v2))=v3) (h4:v3=false) (L_w_sameints_A:∀R:Frm,R.pm=⟨ntOf Tryz.prog 37,[],[]⟩→zg (KN w0) Tryz.prog (FL [pLs cI l,pLs cI z2,pI v1,pI v2,pB v3] []) R z6 (lp Tryz.prog 37 0)):Fun (KN w0) Tryz.prog 37 [.o (.c (pLs cI l)),.o (.c (pLs cI z2))] (.o (.c (pV (.bool true)))):=
 zi (z8 (F:=FL [pLs cI l,pLs cI z2,pI v1,pI v2,pB v3] []) (C:=[(1000002,.op (.len [22] 3) [yh 0] [] (yh 2)),
  (1000004,.op (.len [22] 3) [yh 1] [] (yh 3)),
  (1000005,.bin .neq 3 (yh 2) (yh 3) (yh 4)),
  (10004,.fb 4 false)]) (k:=⟨37,[yh 0,yh 1],[],.o (.c (.k (.bool true))),[]⟩) ⟨[z6],[],0⟩ [] 0 (zf ⟨(zt zo),(zt zo),zb,zb,zb,trivial⟩) ⟨qp (E:=3) (by kernel_rfl) (zc rfl) (za (by rw [← e1];rfl)),
  qp (E:=3) (by kernel_rfl) (zc rfl) (za (by rw [← e2];rfl)),
  e_bin (za rfl) (za rfl) (za rfl) (r_cmp (congrArg some e3)),
  e_fbv h4,
  trivial⟩ mixed trivial (fun R hR p hp s hs=>by
 have hl:zH (qg Tryz.prog 37)=[(4,lp Tryz.prog 37 0)]:=by kernel_rfl
 rw [hl] at hp
 simp only [List.mem_cons,List.not_mem_nil,or_false] at hp
 rcases hp with rfl
 ·have e:s=z6:=(Option.some.inj hs).symm
  subst e;exact L_w_sameints_A R hR) (by kernel_rfl))
theorem ziQ {w0:World} (l z2:List Int) (r:Bool) (hr:decide (l=z2)=r) (hb:l.length<9223372036854775808):Fun (KN w0) Tryz.prog 37 [.o (.c (pLs cI l)),.o (.c (pLs cI z2))] (.o (.c (pB r))):=by
 obtain ⟨v1,e1⟩:=yx ((l.length:Int))
 obtain ⟨v2,e2⟩:=yx ((z2.length:Int))
 obtain ⟨v3,e3⟩:=yx ((v1 != v2))
 cases h4:v3 with
 | true =>
  refine Fun.imp (zez l z2 v1 v2 v3 e1 e2 e3 h4) (fun _ _ _ h=>h) (fun v W D h=>?_)
  have r0:r=false:=by
   rw [← hr];refine decide_eq_false fun hq=>?_;have d:=bne_iff_ne.1 (e3.trans h4);rw [hq] at e1;omega
  rw [r0];exact h
 | false =>
  by_cases c4:l=z2
  ·
   refine Fun.imp (zeB l z2 v1 v2 v3 e1 e2 e3 h4 (fun R hR=>zcV l z2 v1 v2 v3 h4  rfl rfl rfl rfl rfl R hR hb (by have d:=bne_eq_false_iff_eq.1 (e3.trans h4);omega) c4)) (fun _ _ _ h=>h) (fun v W D h=>?_)
   have r0:r=true:=by
    rw [← hr];exact decide_eq_true c4
   rw [r0];exact h
  ·
   obtain ⟨o,hO_w_sameints_B⟩:∃(o:Bool),false=o:=⟨_,rfl⟩
   refine Fun.imp (zeA l z2 v1 v2 v3 o e1 e2 e3 h4 (fun R hR=>zcY l z2 v1 v2 v3 h4 o rfl rfl rfl rfl rfl rfl R hR hb (by have d:=bne_eq_false_iff_eq.1 (e3.trans h4);omega) c4 hO_w_sameints_B)) (fun _ _ _ h=>h) (fun v W D h=>?_)
   have r0:r=o:=by
    rw [← hr,← hO_w_sameints_B];exact decide_eq_false c4
   rw [r0];exact h
structure w_samecell_A_T where
 i:Int
structure w_samecell_B_T where
 i:Int
end Go.Proofs.YtjcegdldgjphiaaGreatDoor
namespace Go.Proofs.YtjcegdldgjphiaaGreatDoor
open Go.RowKit Go.Shelf
theorem zfh {w0:World} (st:St) (c:Int) (hM:LM w0) (hTS:LS w0) (v1:Bool) (v3:Int) (v4:St) (v5:Bool) (e1:((c == (0:Int)))=v1) (e3:((rdI st).1)=v3) (e4:((rdI st).2)=v4) (e5:((v3 == (0:Int)))=v5) (h2:v1=true):BFun false (KN w0) Tryz.prog 27 [.o (.c (.p 0 0)),.o (.c (.d (pI c)))] [(62,[.d (pS (lfO st)),.d (pB (bdO st))])] (.o (.c (.d (pB v5)))) [(62,[.d (pS (lfO v4)),.d (pB (bdO v4))])] :=
 con_b (pan:=false) (zl (F:=FL [pS (lfO st),pB (bdO st),pI c,pB v1,pI v3,pS (lfO v4),pB (bdO v4),pB v5] []) (C:=[(1000002,.bin .eql 3 (yh 2) (LF (.k (.int .i64 0))) (yh 3)),
  (10003,.fb 3 true),
  (1000005,.call ⟨36,[.o (.c (.p 900 0))],[.bx 900 62 [.h 0,.h 1]],yh 4,[.bx 900 62 [.h 5,.h 6]]⟩),
  (1000006,.bin .eql 3 (yh 4) (LF (.k (.int .i64 0))) (yh 7))]) (k:=⟨27,[.o (.c (.p 900 0)),yh 2],[.bx 900 62 [.h 0,.h 1]],yh 7,[.bx 900 62 [.h 5,.h 6]]⟩) 0 (zf ⟨zb,zb,zb,zb,zb,zb,zb,zb,trivial⟩) ⟨e_bin (za rfl) zd (za rfl) (r_cmp (congrArg some e1)),
  e_fbv h2,
  b_con (pan:=false) (qu st v3 v4 e3 e4),
  e_bin (za rfl) zd (za rfl) (r_cmp (congrArg some e5)),
  trivial⟩ mixed (by kernel_rfl))
theorem zfi {w0:World} (st:St) (c:Int) (hM:LM w0) (hTS:LS w0) (v1:Bool) (v3:Bool) (v5:(List UInt8)) (v6:St) (v7:Bool) (e1:((c == (0:Int)))=v1) (e3:((c == (1:Int)))=v3) (e5:((rdT st).1)=v5) (e6:((rdT st).2)=v6) (e7:(((v5:List UInt8) == []))=v7) (h2:v1=false) (h4:v3=true):BFun false (KN w0) Tryz.prog 27 [.o (.c (.p 0 0)),.o (.c (.d (pI c)))] [(62,[.d (pS (lfO st)),.d (pB (bdO st))])] (.o (.c (.d (pB v7)))) [(62,[.d (pS (lfO v6)),.d (pB (bdO v6))])] :=
 con_b (pan:=false) (zl (F:=FL [pS (lfO st),pB (bdO st),pI c,pB v1,pB v3,pS v5,pS (lfO v6),pB (bdO v6),pB v7] []) (C:=[(1000002,.bin .eql 3 (yh 2) (LF (.k (.int .i64 0))) (yh 3)),
  (10003,.fb 3 false),
  (1000004,.bin .eql 3 (yh 2) (LF (.k (.int .i64 1))) (yh 4)),
  (10004,.fb 4 true),
  (1000007,.call ⟨51,[.o (.c (.p 900 0))],[.bx 900 62 [.h 0,.h 1]],yh 5,[.bx 900 62 [.h 6,.h 7]]⟩),
  (1000008,.bin .eql 9 (yh 5) (LF (.k (.string ⟨#[]⟩))) (yh 8))]) (k:=⟨27,[.o (.c (.p 900 0)),yh 2],[.bx 900 62 [.h 0,.h 1]],yh 8,[.bx 900 62 [.h 6,.h 7]]⟩) 0 (zf ⟨zb,zb,zb,zb,zb,zb,zb,zb,zb,trivial⟩) ⟨e_bin (za rfl) zd (za rfl) (r_cmp (congrArg some e1)),
  e_fbv h2,
  e_bin (za rfl) zd (za rfl) (r_cmp (congrArg some e3)),
  e_fbv h4,
  b_con (pan:=false) (zcm st v5 v6 e5 e6),
  e_bin (za rfl) zd (za rfl) (fun W X Y=>by rw [← e7];exact r_seq W X Y),
  trivial⟩ mixed (by kernel_rfl))
theorem zfj {w0:World} (st:St) (c:Int) (hM:LM w0) (hTS:LS w0) (v1:Bool) (v3:Bool) (v5:Bool) (v7:(List Int)) (v8:St) (v10:Int) (v11:Bool) (e1:((c == (0:Int)))=v1) (e3:((c == (1:Int)))=v3) (e5:((c == (2:Int)))=v5) (e7:((rdL rdI st).1)=v7) (e8:((rdL rdI st).2)=v8) (e10:((v7.length:Int))=v10) (e11:((v10 == (0:Int)))=v11) (h2:v1=false) (h4:v3=false) (h6:v5=true) (s9:leftN (rdC st).2≤1000000):BFun false (KN w0) Tryz.prog 27 [.o (.c (.p 0 0)),.o (.c (.d (pI c)))] [(62,[.d (pS (lfO st)),.d (pB (bdO st))])] (.o (.c (.d (pB v11)))) [(62,[.d (pS (lfO v8)),.d (pB (bdO v8))])] :=
 con_b (pan:=false) (zl (F:=FL [pS (lfO st),pB (bdO st),pI c,pB v1,pB v3,pB v5,pLs cI v7,pS (lfO v8),pB (bdO v8),pI v10,pB v11] []) (C:=[(1000002,.bin .eql 3 (yh 2) (LF (.k (.int .i64 0))) (yh 3)),
  (10003,.fb 3 false),
  (1000004,.bin .eql 3 (yh 2) (LF (.k (.int .i64 1))) (yh 4)),
  (10004,.fb 4 false),
  (1000006,.bin .eql 3 (yh 2) (LF (.k (.int .i64 2))) (yh 5)),
  (10005,.fb 5 true),
  (1000009,.call ⟨35,[.o (.c (.p 900 0))],[.bx 900 62 [.h 0,.h 1]],yh 6,[.bx 900 62 [.h 7,.h 8]]⟩),
  (1000010,.op (.len [22] 3) [yh 6] [] (yh 9)),
  (1000011,.bin .eql 3 (yh 9) (LF (.k (.int .i64 0))) (yh 10))]) (k:=⟨27,[.o (.c (.p 900 0)),yh 2],[.bx 900 62 [.h 0,.h 1]],yh 10,[.bx 900 62 [.h 7,.h 8]]⟩) 0 (zf ⟨zb,zb,zb,zb,zb,zb,(zt zo),zb,zb,zb,zb,trivial⟩) ⟨e_bin (za rfl) zd (za rfl) (r_cmp (congrArg some e1)),
  e_fbv h2,
  e_bin (za rfl) zd (za rfl) (r_cmp (congrArg some e3)),
  e_fbv h4,
  e_bin (za rfl) zd (za rfl) (r_cmp (congrArg some e5)),
  e_fbv h6,
  b_con (pan:=false) (zhW st v7 v8 e7 e8 s9),
  qp (E:=3) (by kernel_rfl) (zc rfl) (za (by rw [← e10];rfl)),
  e_bin (za rfl) zd (za rfl) (r_cmp (congrArg some e11)),
  trivial⟩ mixed (by kernel_rfl))
theorem zfk {w0:World} (st:St) (c:Int) (hM:LM w0) (hTS:LS w0) (v1:Bool) (v3:Bool) (v5:Bool) (v7:Bool) (v9:V3) (v10:St) (v11:Bool) (e1:((c == (0:Int)))=v1) (e3:((c == (1:Int)))=v3) (e5:((c == (2:Int)))=v5) (e7:((c == (3:Int)))=v7) (e9:((rdV st).1)=v9) (e10:((rdV st).2)=v10) (e11:(decide (v9=((0:Int),(0:Int),(0:Int))))=v11) (h2:v1=false) (h4:v3=false) (h6:v5=false) (h8:v7=true):BFun false (KN w0) Tryz.prog 27 [.o (.c (.p 0 0)),.o (.c (.d (pI c)))] [(62,[.d (pS (lfO st)),.d (pB (bdO st))])] (.o (.c (.d (pB v11)))) [(62,[.d (pS (lfO v10)),.d (pB (bdO v10))])] :=
 con_b (pan:=false) (zl (F:=FL [pS (lfO st),pB (bdO st),pI c,pB v1,pB v3,pB v5,pB v7,pI v9.1,pI v9.2.1,pI v9.2.2,pS (lfO v10),pB (bdO v10),pB v11] []) (C:=[(1000002,.bin .eql 3 (yh 2) (LF (.k (.int .i64 0))) (yh 3)),
  (10003,.fb 3 false),
  (1000004,.bin .eql 3 (yh 2) (LF (.k (.int .i64 1))) (yh 4)),
  (10004,.fb 4 false),
  (1000006,.bin .eql 3 (yh 2) (LF (.k (.int .i64 2))) (yh 5)),
  (10005,.fb 5 false),
  (1000008,.bin .eql 3 (yh 2) (LF (.k (.int .i64 3))) (yh 6)),
  (10006,.fb 6 true),
  (1000011,.call ⟨54,[.o (.c (.p 900 0))],[.bx 900 62 [.h 0,.h 1]],.o (.g [.h 7,.h 8,.h 9]),[.bx 900 62 [.h 10,.h 11]]⟩),
  (1000013,.bin .eql 24 (.o (.g [.h 7,.h 8,.h 9])) (.o (.g [.k (.int .i64 0),.k (.int .i64 0),.k (.int .i64 0)])) (yh 12))]) (k:=⟨27,[.o (.c (.p 900 0)),yh 2],[.bx 900 62 [.h 0,.h 1]],yh 12,[.bx 900 62 [.h 10,.h 11]]⟩) 0 (zf ⟨zb,zb,zb,zb,zb,zb,zb,zb,zb,zb,zb,zb,zb,trivial⟩) ⟨e_bin (za rfl) zd (za rfl) (r_cmp (congrArg some e1)),
  e_fbv h2,
  e_bin (za rfl) zd (za rfl) (r_cmp (congrArg some e3)),
  e_fbv h4,
  e_bin (za rfl) zd (za rfl) (r_cmp (congrArg some e5)),
  e_fbv h6,
  e_bin (za rfl) zd (za rfl) (r_cmp (congrArg some e7)),
  e_fbv h8,
  b_con (pan:=false) (zkE st v9 v10 e9 e10),
  e_eqV (x:=v9) (y:=((0:Int),(0:Int),(0:Int))) (neg:=false) ⟨(za rfl),(za rfl),(za rfl),trivial⟩ ⟨zd,zd,zd,trivial⟩ (za (by rw [← e11];rfl)),
  trivial⟩ mixed (by kernel_rfl))
theorem zfl {w0:World} (st:St) (c:Int) (hM:LM w0) (hTS:LS w0) (v1:Bool) (v3:Bool) (v5:Bool) (v7:Bool) (v9:Bool) (v11:(List Pl)) (v12:St) (v14:Int) (v15:Bool) (e1:((c == (0:Int)))=v1) (e3:((c == (1:Int)))=v3) (e5:((c == (2:Int)))=v5) (e7:((c == (3:Int)))=v7) (e9:((c == (4:Int)))=v9) (e11:((rdL rdP st).1)=v11) (e12:((rdL rdP st).2)=v12) (e14:((v11.length:Int))=v14) (e15:((v14 == (0:Int)))=v15) (h2:v1=false) (h4:v3=false) (h6:v5=false) (h8:v7=false) (h10:v9=true) (s13:leftN (rdC st).2≤1000000):BFun false (KN w0) Tryz.prog 27 [.o (.c (.p 0 0)),.o (.c (.d (pI c)))] [(62,[.d (pS (lfO st)),.d (pB (bdO st))])] (.o (.c (.d (pB v15)))) [(62,[.d (pS (lfO v12)),.d (pB (bdO v12))])] :=
 con_b (pan:=false) (zl (F:=FL [pS (lfO st),pB (bdO st),pI c,pB v1,pB v3,pB v5,pB v7,pB v9,pLs cPl v11,pS (lfO v12),pB (bdO v12),pI v14,pB v15] []) (C:=[(1000002,.bin .eql 3 (yh 2) (LF (.k (.int .i64 0))) (yh 3)),
  (10003,.fb 3 false),
  (1000004,.bin .eql 3 (yh 2) (LF (.k (.int .i64 1))) (yh 4)),
  (10004,.fb 4 false),
  (1000006,.bin .eql 3 (yh 2) (LF (.k (.int .i64 2))) (yh 5)),
  (10005,.fb 5 false),
  (1000008,.bin .eql 3 (yh 2) (LF (.k (.int .i64 3))) (yh 6)),
  (10006,.fb 6 false),
  (1000010,.bin .eql 3 (yh 2) (LF (.k (.int .i64 4))) (yh 7)),
  (10007,.fb 7 true),
  (1000013,.call ⟨57,[.o (.c (.p 900 0))],[.bx 900 62 [.h 0,.h 1]],yh 8,[.bx 900 62 [.h 9,.h 10]]⟩),
  (1000014,.op (.len [25] 3) [yh 8] [] (yh 11)),
  (1000015,.bin .eql 3 (yh 11) (LF (.k (.int .i64 0))) (yh 12))]) (k:=⟨27,[.o (.c (.p 900 0)),yh 2],[.bx 900 62 [.h 0,.h 1]],yh 12,[.bx 900 62 [.h 9,.h 10]]⟩) 0 (zf ⟨zb,zb,zb,zb,zb,zb,zb,zb,(zt zx),zb,zb,zb,zb,trivial⟩) ⟨e_bin (za rfl) zd (za rfl) (r_cmp (congrArg some e1)),
  e_fbv h2,
  e_bin (za rfl) zd (za rfl) (r_cmp (congrArg some e3)),
  e_fbv h4,
  e_bin (za rfl) zd (za rfl) (r_cmp (congrArg some e5)),
  e_fbv h6,
  e_bin (za rfl) zd (za rfl) (r_cmp (congrArg some e7)),
  e_fbv h8,
  e_bin (za rfl) zd (za rfl) (r_cmp (congrArg some e9)),
  e_fbv h10,
  b_con (pan:=false) (zl9 st v11 v12 e11 e12 s13),
  qp (E:=69) (by kernel_rfl) (zc rfl) (za (by rw [← e14];rfl)),
  e_bin (za rfl) zd (za rfl) (r_cmp (congrArg some e15)),
  trivial⟩ mixed (by kernel_rfl))
theorem zfm {w0:World} (st:St) (c:Int) (hM:LM w0) (hTS:LS w0) (v1:Bool) (v3:Bool) (v5:Bool) (v7:Bool) (v9:Bool) (v11:RR) (v12:St) (v14:Bool) (e1:((c == (0:Int)))=v1) (e3:((c == (1:Int)))=v3) (e5:((c == (2:Int)))=v5) (e7:((c == (3:Int)))=v7) (e9:((c == (4:Int)))=v9) (e11:((rdR st).1)=v11) (e12:((rdR st).2)=v12) (e14:(decide (v11=(rq none)))=v14) (h2:v1=false) (h4:v3=false) (h6:v5=false) (h8:v7=false) (h10:v9=false) (s13:(rdT st).1.length<4294967281):BFun false (KN w0) Tryz.prog 27 [.o (.c (.p 0 0)),.o (.c (.d (pI c)))] [(62,[.d (pS (lfO st)),.d (pB (bdO st))])] (.o (.c (.d (pB v14)))) [(62,[.d (pS (lfO v12)),.d (pB (bdO v12))])] :=
 con_b (pan:=false) (zl (F:=FL [pS (lfO st),pB (bdO st),pI c,pB v1,pB v3,pB v5,pB v7,pB v9,pB v11.1.1,pD v11.1.2,pB v11.2.1,pD v11.2.2,pS (lfO v12),pB (bdO v12),pB v14] []) (C:=[(1000002,.bin .eql 3 (yh 2) (LF (.k (.int .i64 0))) (yh 3)),
  (10003,.fb 3 false),
  (1000004,.bin .eql 3 (yh 2) (LF (.k (.int .i64 1))) (yh 4)),
  (10004,.fb 4 false),
  (1000006,.bin .eql 3 (yh 2) (LF (.k (.int .i64 2))) (yh 5)),
  (10005,.fb 5 false),
  (1000008,.bin .eql 3 (yh 2) (LF (.k (.int .i64 3))) (yh 6)),
  (10006,.fb 6 false),
  (1000010,.bin .eql 3 (yh 2) (LF (.k (.int .i64 4))) (yh 7)),
  (10007,.fb 7 false),
  (1000013,.call ⟨60,[.o (.c (.p 900 0))],[.bx 900 62 [.h 0,.h 1]],.o (.g [.h 8,.h 9,.h 10,.h 11]),[.bx 900 62 [.h 12,.h 13]]⟩),
  (1000015,.call ⟨59,[.o (.g [.h 8,.h 9,.h 10,.h 11]),.o (.g [.k (.bool false),.k (.slice none 0 0),.k (.bool false),.k (.slice none 0 0)])],[],yh 14,[]⟩)]) (k:=⟨27,[.o (.c (.p 900 0)),yh 2],[.bx 900 62 [.h 0,.h 1]],yh 14,[.bx 900 62 [.h 12,.h 13]]⟩) 0 (zf ⟨zb,zb,zb,zb,zb,zb,zb,zb,zb,zj,zb,zj,zb,zb,zb,trivial⟩) ⟨e_bin (za rfl) zd (za rfl) (r_cmp (congrArg some e1)),
  e_fbv h2,
  e_bin (za rfl) zd (za rfl) (r_cmp (congrArg some e3)),
  e_fbv h4,
  e_bin (za rfl) zd (za rfl) (r_cmp (congrArg some e5)),
  e_fbv h6,
  e_bin (za rfl) zd (za rfl) (r_cmp (congrArg some e7)),
  e_fbv h8,
  e_bin (za rfl) zd (za rfl) (r_cmp (congrArg some e9)),
  e_fbv h10,
  b_con (pan:=false) (zkD hM hTS st v11 v12 e11 e12 s13),
  ze (Fun.imp (as2:=[.o (.g [pB v11.1.1,pD v11.1.2,pB v11.2.1,pD v11.2.2]),.o (.g [pV (.bool false),pV (.slice none 0 0),pV (.bool false),pV (.slice none 0 0)])]) (zmq v11 (rq none) v14 e14) (zea ⟨fun _ _ _ h=>h,fun _ _ _ h=>zhZ h,trivial⟩) (fun _ _ _ h=>h)),
  trivial⟩ mixed (by kernel_rfl))
theorem zbu {w0:World} (hM:LM w0) (hTS:LS w0) (c:Int) (st:St) (r:Bool) (st2:St) (hr:nthB c st=r) (hs:callS c st=st2) (hle:leftN st≤1000000):BFun false (KN w0) Tryz.prog 27 [.o (.c (.p 0 0)),.o (.c (.d (pI c)))] [(62,[.d (pS (lfO st)),.d (pB (bdO st))])] (.o (.c (.d (pB r)))) [(62,[.d (pS (lfO st2)),.d (pB (bdO st2))])]:=by
 obtain ⟨v1,e1⟩:=yx ((c == (0:Int)))
 cases h2:v1 with
 | true =>
  obtain ⟨v3,e3⟩:=yx ((rdI st).1)
  obtain ⟨v4,e4⟩:=yx ((rdI st).2)
  obtain ⟨v5,e5⟩:=yx ((v3 == (0:Int)))
  have r0:r=v5:=by
   have q0:=eq_of_beq (e1.trans h2)
   first | (rw [← hr];unfold nthB;rw [if_pos q0];rw [e3,← e5];first | done | rfl | (rw [Bool.eq_iff_iff];simp)) | (rw [← hs];unfold callS;rw [if_pos q0];exact e4)
  have r1:st2=v4:=by
   have q0:=eq_of_beq (e1.trans h2)
   first | (rw [← hr];unfold nthB;rw [if_pos q0];rw [e3,← e5];first | done | rfl | (rw [Bool.eq_iff_iff];simp)) | (rw [← hs];unfold callS;rw [if_pos q0];exact e4)
  rw [r0,r1];exact zfh st c hM hTS v1 v3 v4 v5 e1 e3 e4 e5 h2
 | false =>
  obtain ⟨v3,e3⟩:=yx ((c == (1:Int)))
  cases h4:v3 with
  | true =>
   obtain ⟨v5,e5⟩:=yx ((rdT st).1)
   obtain ⟨v6,e6⟩:=yx ((rdT st).2)
   obtain ⟨v7,e7⟩:=yx (((v5:List UInt8) == []))
   have r0:r=v7:=by
    have q0:=ne_of_beq_false (e1.trans h2)
    have q1:=eq_of_beq (e3.trans h4)
    first | (rw [← hr];unfold nthB;rw [if_neg q0,if_pos q1];rw [e5,← e7];first | done | rfl | (rw [Bool.eq_iff_iff];simp)) | (rw [← hs];unfold callS;rw [if_neg q0,if_pos q1];exact e6)
   have r1:st2=v6:=by
    have q0:=ne_of_beq_false (e1.trans h2)
    have q1:=eq_of_beq (e3.trans h4)
    first | (rw [← hr];unfold nthB;rw [if_neg q0,if_pos q1];rw [e5,← e7];first | done | rfl | (rw [Bool.eq_iff_iff];simp)) | (rw [← hs];unfold callS;rw [if_neg q0,if_pos q1];exact e6)
   rw [r0,r1];exact zfi st c hM hTS v1 v3 v5 v6 v7 e1 e3 e5 e6 e7 h2 h4
  | false =>
   obtain ⟨v5,e5⟩:=yx ((c == (2:Int)))
   cases h6:v5 with
   | true =>
    obtain ⟨v7,e7⟩:=yx ((rdL rdI st).1)
    obtain ⟨v8,e8⟩:=yx ((rdL rdI st).2)
    have s9:leftN (rdC st).2≤1000000:=by exact Nat.le_trans (zd4 st) hle
    obtain ⟨v10,e10⟩:=yx ((v7.length:Int))
    obtain ⟨v11,e11⟩:=yx ((v10 == (0:Int)))
    have r0:r=v11:=by
     have q0:=ne_of_beq_false (e1.trans h2)
     have q1:=ne_of_beq_false (e3.trans h4)
     have q2:=eq_of_beq (e5.trans h6)
     first | (rw [← hr];unfold nthB;rw [if_neg q0,if_neg q1,if_pos q2];rw [e7,← e11,← e10];first | done | rfl | (rw [Bool.eq_iff_iff];simp)) | (rw [← hs];unfold callS;rw [if_neg q0,if_neg q1,if_pos q2];exact e8)
    have r1:st2=v8:=by
     have q0:=ne_of_beq_false (e1.trans h2)
     have q1:=ne_of_beq_false (e3.trans h4)
     have q2:=eq_of_beq (e5.trans h6)
     first | (rw [← hr];unfold nthB;rw [if_neg q0,if_neg q1,if_pos q2];rw [e7,← e11,← e10];first | done | rfl | (rw [Bool.eq_iff_iff];simp)) | (rw [← hs];unfold callS;rw [if_neg q0,if_neg q1,if_pos q2];exact e8)
    rw [r0,r1];exact zfj st c hM hTS v1 v3 v5 v7 v8 v10 v11 e1 e3 e5 e7 e8 e10 e11 h2 h4 h6 s9
   | false =>
    obtain ⟨v7,e7⟩:=yx ((c == (3:Int)))
    cases h8:v7 with
    | true =>
     obtain ⟨v9,e9⟩:=yx ((rdV st).1)
     obtain ⟨v10,e10⟩:=yx ((rdV st).2)
     obtain ⟨v11,e11⟩:=yx (decide (v9=((0:Int),(0:Int),(0:Int))))
     have r0:r=v11:=by
      have q0:=ne_of_beq_false (e1.trans h2)
      have q1:=ne_of_beq_false (e3.trans h4)
      have q2:=ne_of_beq_false (e5.trans h6)
      have q3:=eq_of_beq (e7.trans h8)
      first | (rw [← hr];unfold nthB;rw [if_neg q0,if_neg q1,if_neg q2,if_pos q3];rw [e9,← e11];first | done | rfl | (rw [Bool.eq_iff_iff];simp)) | (rw [← hs];unfold callS;rw [if_neg q0,if_neg q1,if_neg q2,if_pos q3];exact e10)
     have r1:st2=v10:=by
      have q0:=ne_of_beq_false (e1.trans h2)
      have q1:=ne_of_beq_false (e3.trans h4)
      have q2:=ne_of_beq_false (e5.trans h6)
      have q3:=eq_of_beq (e7.trans h8)
      first | (rw [← hr];unfold nthB;rw [if_neg q0,if_neg q1,if_neg q2,if_pos q3];rw [e9,← e11];first | done | rfl | (rw [Bool.eq_iff_iff];simp)) | (rw [← hs];unfold callS;rw [if_neg q0,if_neg q1,if_neg q2,if_pos q3];exact e10)
     rw [r0,r1];exact zfk st c hM hTS v1 v3 v5 v7 v9 v10 v11 e1 e3 e5 e7 e9 e10 e11 h2 h4 h6 h8
    | false =>
     obtain ⟨v9,e9⟩:=yx ((c == (4:Int)))
     cases h10:v9 with
     | true =>
      obtain ⟨v11,e11⟩:=yx ((rdL rdP st).1)
      obtain ⟨v12,e12⟩:=yx ((rdL rdP st).2)
      have s13:leftN (rdC st).2≤1000000:=by exact Nat.le_trans (zd4 st) hle
      obtain ⟨v14,e14⟩:=yx ((v11.length:Int))
      obtain ⟨v15,e15⟩:=yx ((v14 == (0:Int)))
      have r0:r=v15:=by
       have q0:=ne_of_beq_false (e1.trans h2)
       have q1:=ne_of_beq_false (e3.trans h4)
       have q2:=ne_of_beq_false (e5.trans h6)
       have q3:=ne_of_beq_false (e7.trans h8)
       have q4:=eq_of_beq (e9.trans h10)
       first | (rw [← hr];unfold nthB;rw [if_neg q0,if_neg q1,if_neg q2,if_neg q3,if_pos q4];rw [e11,← e15,← e14];first | done | rfl | (rw [Bool.eq_iff_iff];simp)) | (rw [← hs];unfold callS;rw [if_neg q0,if_neg q1,if_neg q2,if_neg q3,if_pos q4];exact e12)
      have r1:st2=v12:=by
       have q0:=ne_of_beq_false (e1.trans h2)
       have q1:=ne_of_beq_false (e3.trans h4)
       have q2:=ne_of_beq_false (e5.trans h6)
       have q3:=ne_of_beq_false (e7.trans h8)
       have q4:=eq_of_beq (e9.trans h10)
       first | (rw [← hr];unfold nthB;rw [if_neg q0,if_neg q1,if_neg q2,if_neg q3,if_pos q4];rw [e11,← e15,← e14];first | done | rfl | (rw [Bool.eq_iff_iff];simp)) | (rw [← hs];unfold callS;rw [if_neg q0,if_neg q1,if_neg q2,if_neg q3,if_pos q4];exact e12)
      rw [r0,r1];exact zfl st c hM hTS v1 v3 v5 v7 v9 v11 v12 v14 v15 e1 e3 e5 e7 e9 e11 e12 e14 e15 h2 h4 h6 h8 h10 s13
     | false =>
      obtain ⟨v11,e11⟩:=yx ((rdR st).1)
      obtain ⟨v12,e12⟩:=yx ((rdR st).2)
      have s13:(rdT st).1.length<4294967281:=by exact Nat.lt_of_le_of_lt (Nat.le_trans (znp st) hle) (by decide)
      obtain ⟨v14,e14⟩:=yx (decide (v11=(rq none)))
      have r0:r=v14:=by
       have q0:=ne_of_beq_false (e1.trans h2)
       have q1:=ne_of_beq_false (e3.trans h4)
       have q2:=ne_of_beq_false (e5.trans h6)
       have q3:=ne_of_beq_false (e7.trans h8)
       have q4:=ne_of_beq_false (e9.trans h10)
       first | (rw [← hr];unfold nthB;rw [if_neg q0,if_neg q1,if_neg q2,if_neg q3,if_neg q4];rw [e11,← e14];first | done | rfl | (rw [Bool.eq_iff_iff];simp)) | (rw [← hs];unfold callS;rw [if_neg q0,if_neg q1,if_neg q2,if_neg q3,if_neg q4];exact e12)
      have r1:st2=v12:=by
       have q0:=ne_of_beq_false (e1.trans h2)
       have q1:=ne_of_beq_false (e3.trans h4)
       have q2:=ne_of_beq_false (e5.trans h6)
       have q3:=ne_of_beq_false (e7.trans h8)
       have q4:=ne_of_beq_false (e9.trans h10)
       first | (rw [← hr];unfold nthB;rw [if_neg q0,if_neg q1,if_neg q2,if_neg q3,if_neg q4];rw [e11,← e14];first | done | rfl | (rw [Bool.eq_iff_iff];simp)) | (rw [← hs];unfold callS;rw [if_neg q0,if_neg q1,if_neg q2,if_neg q3,if_neg q4];exact e12)
      rw [r0,r1];exact zfm st c hM hTS v1 v3 v5 v7 v9 v11 v12 v14 e1 e3 e5 e7 e9 e11 e12 e14 h2 h4 h6 h8 h10 s13
def malB (s:List UInt8) (c:Int):Bool:=nthB c (some s) && bdO (callS c (some s)) && decide (leftN (callS c (some s))=0)
theorem zc9 {w0:World} (s:(List UInt8)) (c:Int) (hM:LM w0) (hTS:LS w0) (v1:St) (v2:Bool) (v3:Bool) (v5:Bool) (v6:St) (v9:Bool) (v11:Int) (v12:Bool) (e1:(some s)=v1) (e2:(bdO v1)=v2) (e3:(!v2)=v3) (e5:(nthB c v1)=v5) (e6:(callS c v1)=v6) (e9:(bdO v6)=v9) (e11:((leftN v6:Int))=v11) (e12:((v11 == (0:Int)))=v12) (h4:v3=true) (s7:leftN v1≤1000000) (h8:v5=true) (h10:v9=true):Fun (KN w0) Tryz.prog 29 [.o (.c (pS s)),.o (.c (pI c))] (.o (.c (pB v12))):=
 zi (zl (F:=FL [pS s,pI c,pS (lfO v1),pB (bdO v1),pB v2,pB v3,pB v5,pS (lfO v6),pB (bdO v6),pB v9,pI v11,pB v12] []) (C:=[(1000002,.neu 18 [yh 0] 62 [.h 2,.h 3]),
  (1000005,.bin .neq 45 (LF (.p 2 0)) (LF (.k (.pointer none))) (LF (.k (.bool true)))),
  (1000008,.call ⟨23,[.o (.c (.p 2 0))],[.bx 2 62 [.h 2,.h 3]],yh 4,[.bx 2 62 [.h 2,.h 3]]⟩),
  (1000009,.un .not (yh 4) (yh 5)),
  (10005,.fb 5 true),
  (1000014,.call ⟨27,[.o (.c (.p 2 0)),yh 1],[.bx 2 62 [.h 2,.h 3]],yh 6,[.bx 2 62 [.h 7,.h 8]]⟩),
  (10006,.fb 6 true),
  (1000018,.call ⟨23,[.o (.c (.p 2 0))],[.bx 2 62 [.h 7,.h 8]],yh 9,[.bx 2 62 [.h 7,.h 8]]⟩),
  (10009,.fb 9 true),
  (1000022,.call ⟨21,[.o (.c (.p 2 0))],[.bx 2 62 [.h 7,.h 8]],yh 10,[.bx 2 62 [.h 7,.h 8]]⟩),
  (1000023,.bin .eql 3 (yh 10) (LF (.k (.int .i64 0))) (yh 11))]) (k:=⟨29,[yh 0,yh 1],[],yh 11,[]⟩) 0 (zf ⟨zb,zb,zb,zb,zb,zb,zb,zb,zb,zb,zb,zb,trivial⟩) ⟨zbk (zff s v1 e1) rfl rfl rfl rfl,
  zaA (by kernel_rfl),
  b_con (pan:=false) (w_bad v1 v2 e2),
  e_un (za rfl) (za rfl) (fun W=>by rw [← e3];exact r_not W),
  e_fbv h4,
  b_con (pan:=false) (zbu hM hTS c v1 v5 v6 e5 e6 s7),
  e_fbv h8,
  b_con (pan:=false) (w_bad v6 v9 e9),
  e_fbv h10,
  b_con (pan:=false) (zcU v6 v11 e11),
  e_bin (za rfl) zd (za rfl) (r_cmp (congrArg some e12)),
  trivial⟩ mixed (by kernel_rfl))
theorem zda {w0:World} (s:(List UInt8)) (c:Int) (hM:LM w0) (hTS:LS w0) (v1:St) (v2:Bool) (v3:Bool) (v5:Bool) (v6:St) (v9:Bool) (e1:(some s)=v1) (e2:(bdO v1)=v2) (e3:(!v2)=v3) (e5:(nthB c v1)=v5) (e6:(callS c v1)=v6) (e9:(bdO v6)=v9) (h4:v3=true) (s7:leftN v1≤1000000) (h8:v5=true) (h10:v9=false):Fun (KN w0) Tryz.prog 29 [.o (.c (pS s)),.o (.c (pI c))] (.o (.c (pV (.bool false)))):=
 zi (zl (F:=FL [pS s,pI c,pS (lfO v1),pB (bdO v1),pB v2,pB v3,pB v5,pS (lfO v6),pB (bdO v6),pB v9] []) (C:=[(1000002,.neu 18 [yh 0] 62 [.h 2,.h 3]),
  (1000005,.bin .neq 45 (LF (.p 2 0)) (LF (.k (.pointer none))) (LF (.k (.bool true)))),
  (1000008,.call ⟨23,[.o (.c (.p 2 0))],[.bx 2 62 [.h 2,.h 3]],yh 4,[.bx 2 62 [.h 2,.h 3]]⟩),
  (1000009,.un .not (yh 4) (yh 5)),
  (10005,.fb 5 true),
  (1000014,.call ⟨27,[.o (.c (.p 2 0)),yh 1],[.bx 2 62 [.h 2,.h 3]],yh 6,[.bx 2 62 [.h 7,.h 8]]⟩),
  (10006,.fb 6 true),
  (1000018,.call ⟨23,[.o (.c (.p 2 0))],[.bx 2 62 [.h 7,.h 8]],yh 9,[.bx 2 62 [.h 7,.h 8]]⟩),
  (10009,.fb 9 false)]) (k:=⟨29,[yh 0,yh 1],[],.o (.c (.k (.bool false))),[]⟩) 0 (zf ⟨zb,zb,zb,zb,zb,zb,zb,zb,zb,zb,trivial⟩) ⟨zbk (zff s v1 e1) rfl rfl rfl rfl,
  zaA (by kernel_rfl),
  b_con (pan:=false) (w_bad v1 v2 e2),
  e_un (za rfl) (za rfl) (fun W=>by rw [← e3];exact r_not W),
  e_fbv h4,
  b_con (pan:=false) (zbu hM hTS c v1 v5 v6 e5 e6 s7),
  e_fbv h8,
  b_con (pan:=false) (w_bad v6 v9 e9),
  e_fbv h10,
  trivial⟩ mixed (by kernel_rfl))
theorem zdb {w0:World} (s:(List UInt8)) (c:Int) (hM:LM w0) (hTS:LS w0) (v1:St) (v2:Bool) (v3:Bool) (v5:Bool) (v6:St) (e1:(some s)=v1) (e2:(bdO v1)=v2) (e3:(!v2)=v3) (e5:(nthB c v1)=v5) (e6:(callS c v1)=v6) (h4:v3=true) (s7:leftN v1≤1000000) (h8:v5=false):Fun (KN w0) Tryz.prog 29 [.o (.c (pS s)),.o (.c (pI c))] (.o (.c (pV (.bool false)))):=
 zi (zl (F:=FL [pS s,pI c,pS (lfO v1),pB (bdO v1),pB v2,pB v3,pB v5,pS (lfO v6),pB (bdO v6)] []) (C:=[(1000002,.neu 18 [yh 0] 62 [.h 2,.h 3]),
  (1000005,.bin .neq 45 (LF (.p 2 0)) (LF (.k (.pointer none))) (LF (.k (.bool true)))),
  (1000008,.call ⟨23,[.o (.c (.p 2 0))],[.bx 2 62 [.h 2,.h 3]],yh 4,[.bx 2 62 [.h 2,.h 3]]⟩),
  (1000009,.un .not (yh 4) (yh 5)),
  (10005,.fb 5 true),
  (1000014,.call ⟨27,[.o (.c (.p 2 0)),yh 1],[.bx 2 62 [.h 2,.h 3]],yh 6,[.bx 2 62 [.h 7,.h 8]]⟩),
  (10006,.fb 6 false)]) (k:=⟨29,[yh 0,yh 1],[],.o (.c (.k (.bool false))),[]⟩) 0 (zf ⟨zb,zb,zb,zb,zb,zb,zb,zb,zb,trivial⟩) ⟨zbk (zff s v1 e1) rfl rfl rfl rfl,
  zaA (by kernel_rfl),
  b_con (pan:=false) (w_bad v1 v2 e2),
  e_un (za rfl) (za rfl) (fun W=>by rw [← e3];exact r_not W),
  e_fbv h4,
  b_con (pan:=false) (zbu hM hTS c v1 v5 v6 e5 e6 s7),
  e_fbv h8,
  trivial⟩ mixed (by kernel_rfl))
theorem zdc {w0:World} (s:(List UInt8)) (c:Int) (hM:LM w0) (hTS:LS w0) (v1:St) (v2:Bool) (v3:Bool) (e1:(some s)=v1) (e2:(bdO v1)=v2) (e3:(!v2)=v3) (h4:v3=false):Fun (KN w0) Tryz.prog 29 [.o (.c (pS s)),.o (.c (pI c))] (.o (.c (pV (.bool false)))):=
 zi (zl (F:=FL [pS s,pI c,pS (lfO v1),pB (bdO v1),pB v2,pB v3] []) (C:=[(1000002,.neu 18 [yh 0] 62 [.h 2,.h 3]),
  (1000005,.bin .neq 45 (LF (.p 2 0)) (LF (.k (.pointer none))) (LF (.k (.bool true)))),
  (1000008,.call ⟨23,[.o (.c (.p 2 0))],[.bx 2 62 [.h 2,.h 3]],yh 4,[.bx 2 62 [.h 2,.h 3]]⟩),
  (1000009,.un .not (yh 4) (yh 5)),
  (10005,.fb 5 false)]) (k:=⟨29,[yh 0,yh 1],[],.o (.c (.k (.bool false))),[]⟩) 0 (zf ⟨zb,zb,zb,zb,zb,zb,trivial⟩) ⟨zbk (zff s v1 e1) rfl rfl rfl rfl,
  zaA (by kernel_rfl),
  b_con (pan:=false) (w_bad v1 v2 e2),
  e_un (za rfl) (za rfl) (fun W=>by rw [← e3];exact r_not W),
  e_fbv h4,
  trivial⟩ mixed (by kernel_rfl))
theorem qR {w0:World} (hM:LM w0) (hTS:LS w0) (s:List UInt8) (c:Int) (r:Bool) (hr:malB s c=r) (hle:s.length≤1000000):Fun (KN w0) Tryz.prog 29 [.o (.c (pS s)),.o (.c (pI c))] (.o (.c (pB r))):=by
 obtain ⟨v1,e1⟩:=yx (some s)
 obtain ⟨v2,e2⟩:=yx (bdO v1)
 obtain ⟨v3,e3⟩:=yx (!v2)
 cases h4:v3 with
 | true =>
  obtain ⟨v5,e5⟩:=yx (nthB c v1)
  obtain ⟨v6,e6⟩:=yx (callS c v1)
  have s7:leftN v1≤1000000:=by (rw [← e1];exact hle)
  cases h8:v5 with
  | true =>
   obtain ⟨v9,e9⟩:=yx (bdO v6)
   cases h10:v9 with
   | true =>
    obtain ⟨v11,e11⟩:=yx ((leftN v6:Int))
    obtain ⟨v12,e12⟩:=yx ((v11 == (0:Int)))
    refine Fun.imp (zc9 s c hM hTS v1 v2 v3 v5 v6 v9 v11 v12 e1 e2 e3 e5 e6 e9 e11 e12 h4 s7 h8 h10) (fun _ _ _ h=>h) (fun v W D h=>?_)
    have r0:r=v12:=by
     rw [← hr];unfold malB
     rw [e1,e5,h8,e6,e9,h10,← e12,← e11,Bool.true_and,Bool.true_and,Bool.eq_iff_iff]
     simp
    rw [r0];exact h
   | false =>
    refine Fun.imp (zda s c hM hTS v1 v2 v3 v5 v6 v9 e1 e2 e3 e5 e6 e9 h4 s7 h8 h10) (fun _ _ _ h=>h) (fun v W D h=>?_)
    have r0:r=false:=by
     rw [← hr];unfold malB
     rw [e1,e5,h8,e6,e9,h10];rfl
    rw [r0];exact h
  | false =>
   refine Fun.imp (zdb s c hM hTS v1 v2 v3 v5 v6 e1 e2 e3 e5 e6 h4 s7 h8) (fun _ _ _ h=>h) (fun v W D h=>?_)
   have r0:r=false:=by
    rw [← hr];unfold malB
    rw [e1,e5,h8];rfl
   rw [r0];exact h
 | false =>
  refine Fun.imp (zdc s c hM hTS v1 v2 v3 e1 e2 e3 h4) (fun _ _ _ h=>h) (fun v W D h=>?_)
  have r0:r=false:=by
   exfalso;rw [← e3,← e2,← e1] at h4;cases h4
  rw [r0];exact h
theorem zg4 {w0:World} (n:Int) (d:Int) (v1:Raw) (v4:Raw) (e1:(nz n)=v1) (e4:(nz d)=v4) (s2:-9223372036854775808≤n) (s3:n<9223372036854775808) (s5:-9223372036854775808≤d) (s6:d<9223372036854775808):Fun (KN w0) Tryz.prog 34 [.o (.c (pI n)),.o (.c (pI d))] (.o (.g [pB v1.1,pD v1.2,pB v4.1,pD v4.2])):=
 zi (zl (F:=FL [pI n,pI d,pB v1.1,pD v1.2,pB v4.1,pD v4.2] []) (C:=[(1000002,.call ⟨65,[yh 0],[],.o (.g [.h 2,.h 3]),[]⟩),
  (1000004,.call ⟨65,[yh 1],[],.o (.g [.h 4,.h 5]),[]⟩)]) (k:=⟨34,[yh 0,yh 1],[],.o (.g [.h 2,.h 3,.h 4,.h 5]),[]⟩) 0 (zf ⟨zb,zb,zb,zj,zb,zj,trivial⟩) ⟨ze (zjr n v1 e1 s2 s3),
  ze (zjr d v4 e4 s5 s6),
  trivial⟩ mixed (by kernel_rfl))
theorem zhV {w0:World} (n d:Int) (r:RR) (hr:(nz n,nz d)=r) (hn:InI n) (hd:InI d):Fun (KN w0) Tryz.prog 34 [.o (.c (pI n)),.o (.c (pI d))] (.o (.g [pB r.1.1,pD r.1.2,pB r.2.1,pD r.2.2])):=by
 obtain ⟨v1,e1⟩:=yx (nz n)
 have s2:-9223372036854775808≤n:=by (first | exact hn.1 | exact hn.2 | exact hd.1 | exact hd.2)
 have s3:n<9223372036854775808:=by (first | exact hn.1 | exact hn.2 | exact hd.1 | exact hd.2)
 obtain ⟨v4,e4⟩:=yx (nz d)
 have s5:-9223372036854775808≤d:=by (first | exact hn.1 | exact hn.2 | exact hd.1 | exact hd.2)
 have s6:d<9223372036854775808:=by (first | exact hn.1 | exact hn.2 | exact hd.1 | exact hd.2)
 refine Fun.imp (zg4 n d v1 v4 e1 e4 s2 s3 s5 s6) (fun _ _ _ h=>h) (fun v W D h=>?_)
 have r0:r=(v1,v4):=by
  rw [← hr,e1,e4]
 rw [r0];exact h
end Go.Proofs.YtjcegdldgjphiaaGreatDoor
namespace Go.Proofs.YtjcegdldgjphiaaGreatDoor
open Go.RowKit Go.Shelf
theorem ziR {w0:World} (hM:LM w0) (hTS:LS w0) (v1:(List UInt8)) (v3:Bool) (v5:(List UInt8)) (v7:Bool) (v9:(List UInt8)) (v11:Bool) (v13:(List UInt8)) (v15:Bool) (v17:(List UInt8)) (v19:Bool) (v21:(List UInt8)) (v23:Bool) (v25:(List Int)) (v26:(List UInt8)) (v29:Bool) (v30:(List UInt8)) (v32:Bool) (v34:(List Pl)) (v35:(List UInt8)) (v38:Bool) (v40:(List UInt8)) (v43:Bool) (v45:RR) (v48:(List UInt8)) (v50:Bool) (v52:RR) (v55:(List UInt8)) (v57:Bool) (v58:St) (v59:(List Int)) (v60:St) (v62:Int) (v63:Int) (v64:St) (v65:(List Int)) (v66:Bool) (v69:Bool) (v71:Bool) (v73:Int) (v74:Bool) (v76:Bool) (v77:Bool) (v79:Int) (v80:St) (v81:Bool) (v83:Bool) (v87:Bool) (v90:Bool) (v93:Bool) (v96:Bool) (v99:Bool) (e1:(encI (0:Int))=v1) (e3:(((v1:List UInt8) == [0]))=v3) (e5:(encI (-1:Int))=v5) (e7:(((v5:List UInt8) == [1]))=v7) (e9:(encI (63:Int))=v9) (e11:(((v9:List UInt8) == [126]))=v11) (e13:(encI (64:Int))=v13) (e15:(((v13:List UInt8) == [128,1]))=v15) (e17:(encI (-65:Int))=v17) (e19:(((v17:List UInt8) == [129,1]))=v19) (e21:(encT [97,98])=v21) (e23:(((v21:List UInt8) == [4,97,98]))=v23) (e25:(([(1:Int),(-2:Int)]:List Int))=v25) (e26:(encL encI v25)=v26) (e29:(((v26:List UInt8) == [4,2,3]))=v29) (e30:(encV ((1:Int),(-1:Int),(0:Int)))=v30) (e32:(((v30:List UInt8) == [2,1,0]))=v32) (e34:(([(((1:Int),(0:Int),(0:Int)),(5:Int))]:List Pl))=v34) (e35:(encL encP v34)=v35) (e38:(((v35:List UInt8) == [2,2,0,0,10]))=v38) (e40:(encL encP ([]:List Pl))=v40) (e43:(((v40:List UInt8) == [0]))=v43) (e45:((nz (-1:Int),nz (2:Int)))=v45) (e48:(encRS v45)=v48) (e50:(((v48:List UInt8) == [8,45,49,47,50]))=v50) (e52:((nz (2:Int),nz (4:Int)))=v52) (e55:(encRS v52)=v55) (e57:(((v55:List UInt8) == []))=v57) (e58:(some [4,2,3,6])=v58) (e59:((rdL rdI v58).1)=v59) (e60:((rdL rdI v58).2)=v60) (e62:((leftN v60:Int))=v62) (e63:((rdI v60).1)=v63) (e64:((rdI v60).2)=v64) (e65:(([(1:Int),(-2:Int)]:List Int))=v65) (e66:(decide (v59=v65))=v66) (e69:((v62 == (1:Int)))=v69) (e71:((v63 == (3:Int)))=v71) (e73:((leftN v64:Int))=v73) (e74:((v73 == (0:Int)))=v74) (e76:(bdO v64)=v76) (e77:(!v76)=v77) (e79:((rdI v64).1)=v79) (e80:((rdI v64).2)=v80) (e81:((v79 == (0:Int)))=v81) (e83:(bdO v80)=v83) (e87:(malB [128,0] (0:Int))=v87) (e90:(malB [6,50,47,52] (5:Int))=v90) (e93:(malB [128] (0:Int))=v93) (e96:(malB [6,97] (1:Int))=v96) (e99:(malB [2,2,0] (4:Int))=v99) (s2:InI (0:Int)) (h4:v3=true) (s6:InI (-1:Int)) (h8:v7=true) (s10:InI (63:Int)) (h12:v11=true) (s14:InI (64:Int)) (h16:v15=true) (s18:InI (-65:Int)) (h20:v19=true) (s22:TxW [97,98]) (h24:v23=true) (s27:∀x∈v25,InI x) (s28:v25.length≤1000000) (s31:InV ((1:Int),(-1:Int),(0:Int))) (h33:v32=true) (s36:∀x∈v34,InP x) (s37:v34.length≤1000000) (h39:v38=true) (s41:∀x∈([]:List Pl),InP x) (s42:([]:List Pl).length≤1000000) (h44:v43=true) (s46:InI (-1:Int)) (s47:InI (2:Int)) (s49:TxW (textR v45)) (h51:v50=true) (s53:InI (2:Int)) (s54:InI (4:Int)) (s56:TxW (textR v52)) (s61:leftN (rdC v58).2≤1000000) (s67:v59.length<9223372036854775808) (h68:v66=true) (h70:v69=true) (h72:v71=true) (h75:v74=true) (h78:v77=true) (h82:v81=true) (h84:v29=true) (h85:v57=true) (h86:v83=true) (s88:([128,0]:List UInt8).length≤1000000) (h89:v87=true) (s91:([6,50,47,52]:List UInt8).length≤1000000) (h92:v90=true) (s94:([128]:List UInt8).length≤1000000) (h95:v93=true) (s97:([6,97]:List UInt8).length≤1000000) (h98:v96=true) (s100:([2,2,0]:List UInt8).length≤1000000):Fun (KN w0) Tryz.prog 9 [] (.o (.c (pB v99))):=
 zi (zl (F:=FL (pS v1::pB v3::pS v5::pB v7::pS v9::pB v11::pS v13::pB v15::pS v17::pB v19::pS v21::pB v23::pLs cI v25::pS v26::pB v29::pS v30::pB v32::pLs cPl v34::pS v35::pB v38::pS v40::pB v43::pB v45.1.1::pD v45.1.2::pB v45.2.1::pD v45.2.2::pS v48::pB v50::pB v52.1.1::pD v52.1.2::pB v52.2.1::pD v52.2.2::pS v55::pB v57::pS (lfO v58)::pB (bdO v58)::pLs cI v59::pS (lfO v60)::pB (bdO v60)::pI v62::pI v63::pS (lfO v64)::pB (bdO v64)::pLs cI v65::pB v66::pB v69::pB v71::pI v73::pB v74::pB v76::pB v77::pI v79::pS (lfO v80)::pB (bdO v80)::pB v81::pB v83::pB v87::pB v90::pB v93::pB v96::pB v99::[]) []) (C:=((1000001,.call ⟨12,[.o (.c (.k (.int .i64 0)))],[],yh 0,[]⟩) ::
  (1000002,.bin .eql 9 (yh 0) (LF (.k (.string ⟨#[0]⟩))) (yh 1)) ::
  (10001,.fb 1 true) ::
  (1000004,.call ⟨12,[.o (.c (.k (.int .i64 (-1))))],[],yh 2,[]⟩) ::
  (1000005,.bin .eql 9 (yh 2) (LF (.k (.string ⟨#[1]⟩))) (yh 3)) ::
  (10003,.fb 3 true) ::
  (1000008,.call ⟨12,[.o (.c (.k (.int .i64 63)))],[],yh 4,[]⟩) ::
  (1000009,.bin .eql 9 (yh 4) (LF (.k (.string ⟨#[126]⟩))) (yh 5)) ::
  (10005,.fb 5 true) ::
  (1000012,.call ⟨12,[.o (.c (.k (.int .i64 64)))],[],yh 6,[]⟩) ::
  (1000013,.bin .eql 9 (yh 6) (LF (.k (.string ⟨#[128,1]⟩))) (yh 7)) ::
  (10007,.fb 7 true) ::
  (1000016,.call ⟨12,[.o (.c (.k (.int .i64 (-65))))],[],yh 8,[]⟩) ::
  (1000017,.bin .eql 9 (yh 8) (LF (.k (.string ⟨#[129,1]⟩))) (yh 9)) ::
  (10009,.fb 9 true) ::
  (1000020,.call ⟨30,[.o (.c (.k (.string ⟨#[97,98]⟩)))],[],yh 10,[]⟩) ::
  (1000021,.bin .eql 9 (yh 10) (LF (.k (.string ⟨#[4,97,98]⟩))) (yh 11)) ::
  (10011,.fb 11 true) ::
  (1000024,.dat 3 2 [.k (.int .i64 1),.k (.int .i64 (-2))] 12) ::
  (1000025,.call ⟨31,[yh 12],[],yh 13,[]⟩) ::
  (1000026,.bin .eql 9 (yh 13) (LF (.k (.string ⟨#[4,2,3]⟩))) (yh 14)) ::
  (1000030,.call ⟨32,[.o (.g [.k (.int .i64 1),.k (.int .i64 (-1)),.k (.int .i64 0)])],[],yh 15,[]⟩) ::
  (1000031,.bin .eql 9 (yh 15) (LF (.k (.string ⟨#[2,1,0]⟩))) (yh 16)) ::
  (10016,.fb 16 true) ::
  (1000035,.dat 69 1 [.k (.int .i64 1),.k (.int .i64 0),.k (.int .i64 0),.k (.int .i64 5)] 17) ::
  (1000036,.call ⟨33,[yh 17],[],yh 18,[]⟩) ::
  (1000037,.bin .eql 9 (yh 18) (LF (.k (.string ⟨#[2,2,0,0,10]⟩))) (yh 19)) ::
  (10019,.fb 19 true) ::
  (1000040,.call ⟨33,[.o (.c (.k (.slice none 0 0)))],[],yh 20,[]⟩) ::
  (1000041,.bin .eql 9 (yh 20) (LF (.k (.string ⟨#[0]⟩))) (yh 21)) ::
  (10021,.fb 21 true) ::
  (1000044,.call ⟨34,[.o (.c (.k (.int .i64 (-1)))),.o (.c (.k (.int .i64 2)))],[],.o (.g [.h 22,.h 23,.h 24,.h 25]),[]⟩) ::
  (1000045,.call ⟨16,[.o (.g [.h 22,.h 23,.h 24,.h 25])],[],yh 26,[]⟩) ::
  (1000046,.bin .eql 9 (yh 26) (LF (.k (.string ⟨#[8,45,49,47,50]⟩))) (yh 27)) ::
  (10027,.fb 27 true) ::
  (1000049,.call ⟨34,[.o (.c (.k (.int .i64 2))),.o (.c (.k (.int .i64 4)))],[],.o (.g [.h 28,.h 29,.h 30,.h 31]),[]⟩) ::
  (1000050,.call ⟨16,[.o (.g [.h 28,.h 29,.h 30,.h 31])],[],yh 32,[]⟩) ::
  (1000051,.bin .eql 9 (yh 32) (LF (.k (.string ⟨#[]⟩))) (yh 33)) ::
  (1000054,.neu 18 [.o (.c (.k (.string ⟨#[4,2,3,6]⟩)))] 62 [.h 34,.h 35]) ::
  (1000057,.bin .eql 45 (LF (.p 54 0)) (LF (.k (.pointer none))) (LF (.k (.bool false)))) ::
  (1000059,.call ⟨35,[.o (.c (.p 54 0))],[.bx 54 62 [.h 34,.h 35]],yh 36,[.bx 54 62 [.h 37,.h 38]]⟩) ::
  (1000062,.call ⟨21,[.o (.c (.p 54 0))],[.bx 54 62 [.h 37,.h 38]],yh 39,[.bx 54 62 [.h 37,.h 38]]⟩) ::
  (1000065,.call ⟨36,[.o (.c (.p 54 0))],[.bx 54 62 [.h 37,.h 38]],yh 40,[.bx 54 62 [.h 41,.h 42]]⟩) ::
  (1000068,.dat 3 2 [.k (.int .i64 1),.k (.int .i64 (-2))] 43) ::
  (1000069,.call ⟨37,[yh 36,yh 43],[],yh 44,[]⟩) ::
  (10044,.fb 44 true) ::
  (1000072,.bin .eql 3 (yh 39) (LF (.k (.int .i64 1))) (yh 45)) ::
  (10045,.fb 45 true) ::
  (1000076,.bin .eql 3 (yh 40) (LF (.k (.int .i64 3))) (yh 46)) ::
  (10046,.fb 46 true) ::
  (1000080,.call ⟨21,[.o (.c (.p 54 0))],[.bx 54 62 [.h 41,.h 42]],yh 47,[.bx 54 62 [.h 41,.h 42]]⟩) ::
  (1000081,.bin .eql 3 (yh 47) (LF (.k (.int .i64 0))) (yh 48)) ::
  (10048,.fb 48 true) ::
  (1000085,.call ⟨23,[.o (.c (.p 54 0))],[.bx 54 62 [.h 41,.h 42]],yh 49,[.bx 54 62 [.h 41,.h 42]]⟩) ::
  (1000086,.un .not (yh 49) (yh 50)) ::
  (10050,.fb 50 true) ::
  (1000090,.call ⟨36,[.o (.c (.p 54 0))],[.bx 54 62 [.h 41,.h 42]],yh 51,[.bx 54 62 [.h 52,.h 53]]⟩) ::
  (1000091,.bin .eql 3 (yh 51) (LF (.k (.int .i64 0))) (yh 54)) ::
  (10054,.fb 54 true) ::
  (1000095,.call ⟨23,[.o (.c (.p 54 0))],[.bx 54 62 [.h 52,.h 53]],yh 55,[.bx 54 62 [.h 52,.h 53]]⟩) ::
  (10014,.fb 14 true) ::
  (10033,.fb 33 true) ::
  (10055,.fb 55 true) ::
  (1000106,.call ⟨29,[.o (.c (.k (.string ⟨#[128,0]⟩))),.o (.c (.k (.int .i64 0)))],[],yh 56,[]⟩) ::
  (10056,.fb 56 true) ::
  (1000109,.call ⟨29,[.o (.c (.k (.string ⟨#[6,50,47,52]⟩))),.o (.c (.k (.int .i64 5)))],[],yh 57,[]⟩) ::
  (10057,.fb 57 true) ::
  (1000112,.call ⟨29,[.o (.c (.k (.string ⟨#[128]⟩))),.o (.c (.k (.int .i64 0)))],[],yh 58,[]⟩) ::
  (10058,.fb 58 true) ::
  (1000115,.call ⟨29,[.o (.c (.k (.string ⟨#[6,97]⟩))),.o (.c (.k (.int .i64 1)))],[],yh 59,[]⟩) ::
  (10059,.fb 59 true) ::
  (1000118,.call ⟨29,[.o (.c (.k (.string ⟨#[2,2,0]⟩))),.o (.c (.k (.int .i64 4)))],[],yh 60,[]⟩)::[]:List (Nat×Ent))) (k:=⟨9,[],[],yh 60,[]⟩) 0 (zf ⟨zb,zb,zb,zb,zb,zb,zb,zb,zb,zb,zb,zb,(zt zo),zb,zb,zb,zb,(zt zx),zb,zb,zb,zb,zb,zj,zb,zj,zb,zb,zb,zj,zb,zj,zb,zb,zb,zb,(zt zo),zb,zb,zb,zb,zb,zb,(zt zo),zb,zb,zb,zb,zb,zb,zb,zb,zb,zb,zb,zb,zb,zb,zb,zb,zb,trivial⟩) ⟨ze (w_int (0:Int) v1 e1 s2),
  e_bin (za rfl) zd (za rfl) (fun W X Y=>by rw [← e3];exact r_seq W X Y),
  e_fbv h4,
  ze (w_int (-1:Int) v5 e5 s6),
  e_bin (za rfl) zd (za rfl) (fun W X Y=>by rw [← e7];exact r_seq W X Y),
  e_fbv h8,
  ze (w_int (63:Int) v9 e9 s10),
  e_bin (za rfl) zd (za rfl) (fun W X Y=>by rw [← e11];exact r_seq W X Y),
  e_fbv h12,
  ze (w_int (64:Int) v13 e13 s14),
  e_bin (za rfl) zd (za rfl) (fun W X Y=>by rw [← e15];exact r_seq W X Y),
  e_fbv h16,
  ze (w_int (-65:Int) v17 e17 s18),
  e_bin (za rfl) zd (za rfl) (fun W X Y=>by rw [← e19];exact r_seq W X Y),
  e_fbv h20,
  ze (zmH [97,98] v21 e21 s22),
  e_bin (za rfl) zd (za rfl) (fun W X Y=>by rw [← e23];exact r_seq W X Y),
  e_fbv h24,
  e_dat (c:=cI) (ps:=(pV (.int .i64 1)::pV (.int .i64 (-2))::[])) (qs:=(pI (1:Int)::pI (-2:Int)::[])) (by rw [← e25];rfl) rfl rfl rfl (pimps (fun _ _ _ h=>h) <| pimps (fun _ _ _ h=>h) <| zcJ) rfl,
  ze (zoI v25 v26 e26 s27 s28),
  e_bin (za rfl) zd (za rfl) (fun W X Y=>by rw [← e29];exact r_seq W X Y),
  ze (w_vec ((1:Int),(-1:Int),(0:Int)) v30 e30 s31),
  e_bin (za rfl) zd (za rfl) (fun W X Y=>by rw [← e32];exact r_seq W X Y),
  e_fbv h33,
  e_dat (c:=cPl) (ps:=(pV (.int .i64 1)::pV (.int .i64 0)::pV (.int .i64 0)::pV (.int .i64 5)::[])) (qs:=(pI (((1:Int),(0:Int),(0:Int)),(5:Int)).1.1::pI (((1:Int),(0:Int),(0:Int)),(5:Int)).1.2.1::pI (((1:Int),(0:Int),(0:Int)),(5:Int)).1.2.2::pI (((1:Int),(0:Int),(0:Int)),(5:Int)).2::[])) (by rw [← e34];rfl) rfl rfl rfl (pimps (fun _ _ _ h=>h) <| pimps (fun _ _ _ h=>h) <| pimps (fun _ _ _ h=>h) <| pimps (fun _ _ _ h=>h) <| zcJ) rfl,
  ze (zmG v34 v35 e35 s36 s37),
  e_bin (za rfl) zd (za rfl) (fun W X Y=>by rw [← e38];exact r_seq W X Y),
  e_fbv h39,
  ze (Fun.imp (as2:=[.o (.c (pV (.slice none 0 0)))]) (zmG ([]:List Pl) v40 e40 s41 s42) (zea ⟨fun _ _ _ h=>zjJ h,trivial⟩) (fun _ _ _ h=>h)),
  e_bin (za rfl) zd (za rfl) (fun W X Y=>by rw [← e43];exact r_seq W X Y),
  e_fbv h44,
  ze (zhV (-1:Int) (2:Int) v45 e45 s46 s47),
  ze (zkB hM hTS v45 v48 e48 s49),
  e_bin (za rfl) zd (za rfl) (fun W X Y=>by rw [← e50];exact r_seq W X Y),
  e_fbv h51,
  ze (zhV (2:Int) (4:Int) v52 e52 s53 s54),
  ze (zkB hM hTS v52 v55 e55 s56),
  e_bin (za rfl) zd (za rfl) (fun W X Y=>by rw [← e57];exact r_seq W X Y),
  zbk (zff [4,2,3,6] v58 e58) rfl rfl rfl rfl,
  zjh (by kernel_rfl),
  b_con (pan:=false) (zhW v58 v59 v60 e59 e60 s61),
  b_con (pan:=false) (zcU v60 v62 e62),
  b_con (pan:=false) (qu v60 v63 v64 e63 e64),
  e_dat (c:=cI) (ps:=(pV (.int .i64 1)::pV (.int .i64 (-2))::[])) (qs:=(pI (1:Int)::pI (-2:Int)::[])) (by rw [← e65];rfl) rfl rfl rfl (pimps (fun _ _ _ h=>h) <| pimps (fun _ _ _ h=>h) <| zcJ) rfl,
  ze (ziQ v59 v65 v66 e66 s67),
  e_fbv h68,
  e_bin (za rfl) zd (za rfl) (r_cmp (congrArg some e69)),
  e_fbv h70,
  e_bin (za rfl) zd (za rfl) (r_cmp (congrArg some e71)),
  e_fbv h72,
  b_con (pan:=false) (zcU v64 v73 e73),
  e_bin (za rfl) zd (za rfl) (r_cmp (congrArg some e74)),
  e_fbv h75,
  b_con (pan:=false) (w_bad v64 v76 e76),
  e_un (za rfl) (za rfl) (fun W=>by rw [← e77];exact r_not W),
  e_fbv h78,
  b_con (pan:=false) (qu v64 v79 v80 e79 e80),
  e_bin (za rfl) zd (za rfl) (r_cmp (congrArg some e81)),
  e_fbv h82,
  b_con (pan:=false) (w_bad v80 v83 e83),
  e_fbv h84,
  e_fbv h85,
  e_fbv h86,
  ze (qR hM hTS [128,0] (0:Int) v87 e87 s88),
  e_fbv h89,
  ze (qR hM hTS [6,50,47,52] (5:Int) v90 e90 s91),
  e_fbv h92,
  ze (qR hM hTS [128] (0:Int) v93 e93 s94),
  e_fbv h95,
  ze (qR hM hTS [6,97] (1:Int) v96 e96 s97),
  e_fbv h98,
  ze (qR hM hTS [2,2,0] (4:Int) v99 e99 s100),
  trivial⟩ mixed (by kernel_rfl))
theorem zhe  :InI (0:Int):=by exact ⟨by decide,by decide⟩
theorem zhc  :((((encI (0:Int)):List UInt8) == [0]))=true:=by decide +kernel
theorem zc1  :InI (-1:Int):=by exact ⟨by decide,by decide⟩
theorem zhd  :((((encI (-1:Int)):List UInt8) == [1]))=true:=by decide +kernel
theorem zfP  :InI (63:Int):=by exact ⟨by decide,by decide⟩
theorem zfu  :((((encI (63:Int)):List UInt8) == [126]))=true:=by decide +kernel
theorem zfQ  :InI (64:Int):=by exact ⟨by decide,by decide⟩
theorem zfv  :((((encI (64:Int)):List UInt8) == [128,1]))=true:=by decide +kernel
theorem zfR  :InI (-65:Int):=by exact ⟨by decide,by decide⟩
theorem zfw  :((((encI (-65:Int)):List UInt8) == [129,1]))=true:=by decide +kernel
theorem zfS  :TxW [97,98]:=by unfold TxW;decide +kernel
theorem zfx  :((((encT [97,98]):List UInt8) == [4,97,98]))=true:=by decide +kernel
theorem zfT  :∀x∈(([(1:Int),(-2:Int)]:List Int)),InI x:=by intro x hx;simp only [List.mem_cons,List.not_mem_nil,or_false] at hx;rcases hx with rfl | rfl<;>exact ⟨by decide,by decide⟩
theorem zfU  :(([(1:Int),(-2:Int)]:List Int)).length≤1000000:=by decide +kernel
theorem zfV  :InV ((1:Int),(-1:Int),(0:Int)):=by exact ⟨⟨by decide,by decide⟩,⟨by decide,by decide⟩,⟨by decide,by decide⟩⟩
theorem zfy  :((((encV ((1:Int),(-1:Int),(0:Int))):List UInt8) == [2,1,0]))=true:=by decide +kernel
theorem zfW  :∀x∈(([(((1:Int),(0:Int),(0:Int)),(5:Int))]:List Pl)),InP x:=by intro x hx;rw [List.mem_singleton.1 hx];exact ⟨⟨⟨by decide,by decide⟩,⟨by decide,by decide⟩,⟨by decide,by decide⟩⟩,⟨by decide,by decide⟩⟩
theorem zfX  :(([(((1:Int),(0:Int),(0:Int)),(5:Int))]:List Pl)).length≤1000000:=by decide +kernel
theorem zfz  :((((encL encP (([(((1:Int),(0:Int),(0:Int)),(5:Int))]:List Pl))):List UInt8) == [2,2,0,0,10]))=true:=by decide +kernel
theorem zfY  :∀x∈([]:List Pl),InP x:=by intro x hx;cases hx
theorem zfZ  :([]:List Pl).length≤1000000:=by decide +kernel
theorem zfA  :((((encL encP ([]:List Pl)):List UInt8) == [0]))=true:=by decide +kernel
theorem zb8  :InI (2:Int):=by exact ⟨by decide,by decide⟩
theorem zf0  :TxW (textR ((nz (-1:Int),nz (2:Int)))):=by unfold TxW;decide +kernel
theorem zfB  :((((encRS ((nz (-1:Int),nz (2:Int)))):List UInt8) == [8,45,49,47,50]))=true:=by decide +kernel
theorem zf1  :InI (4:Int):=by exact ⟨by decide,by decide⟩
theorem zf2  :TxW (textR ((nz (2:Int),nz (4:Int)))):=by unfold TxW;decide +kernel
theorem zf3  :leftN (rdC (some [4,2,3,6])).2≤1000000:=by decide +kernel
theorem zf4  :((rdL rdI (some [4,2,3,6])).1).length<9223372036854775808:=by decide +kernel
theorem zfC  :(decide (((rdL rdI (some [4,2,3,6])).1)=(([(1:Int),(-2:Int)]:List Int))))=true:=by decide +kernel
theorem zfD  :((((leftN ((rdL rdI (some [4,2,3,6])).2):Int)) == (1:Int)))=true:=by decide +kernel
theorem zfE  :((((rdI ((rdL rdI (some [4,2,3,6])).2)).1) == (3:Int)))=true:=by decide +kernel
theorem zfF  :((((leftN ((rdI ((rdL rdI (some [4,2,3,6])).2)).2):Int)) == (0:Int)))=true:=by decide +kernel
theorem zfG  :(!(bdO ((rdI ((rdL rdI (some [4,2,3,6])).2)).2)))=true:=by decide +kernel
theorem zfH  :((((rdI ((rdI ((rdL rdI (some [4,2,3,6])).2)).2)).1) == (0:Int)))=true:=by decide +kernel
theorem zfI  :((((encL encI (([(1:Int),(-2:Int)]:List Int))):List UInt8) == [4,2,3]))=true:=by decide +kernel
theorem zfJ  :((((encRS ((nz (2:Int),nz (4:Int)))):List UInt8) == []))=true:=by decide +kernel
theorem zfK  :(bdO ((rdI ((rdI ((rdL rdI (some [4,2,3,6])).2)).2)).2))=true:=by decide +kernel
theorem zf5  :([128,0]:List UInt8).length≤1000000:=by decide +kernel
theorem zfL  :(malB [128,0] (0:Int))=true:=by decide +kernel
theorem zf6  :([6,50,47,52]:List UInt8).length≤1000000:=by decide +kernel
theorem zfM  :(malB [6,50,47,52] (5:Int))=true:=by decide +kernel
theorem zf7  :([128]:List UInt8).length≤1000000:=by decide +kernel
theorem zfN  :(malB [128] (0:Int))=true:=by decide +kernel
theorem zf8  :([6,97]:List UInt8).length≤1000000:=by decide +kernel
theorem zfO  :(malB [6,97] (1:Int))=true:=by decide +kernel
theorem zeD  :([2,2,0]:List UInt8).length≤1000000:=by decide +kernel
theorem zeC  :malB [2,2,0] (4:Int)=true:=by decide +kernel
theorem zma {w0:World} (hM:LM w0) (hTS:LS w0)  :Fun (KN w0) Tryz.prog 9 [] (.o (.c (pV (.bool true)))):=
 ziR  hM hTS _ _ _ _ _ _ _ _ _ _ _ _ _ _ _ _ _ _ _ _ _ _ _ _ _ _ _ _ _ _ _ _ _ _ _ _ _ _ _ _ _ _ _ _ _ _ _ _ _ _ _ rfl rfl rfl rfl rfl rfl rfl rfl rfl rfl rfl rfl rfl rfl rfl rfl rfl rfl rfl rfl rfl rfl rfl rfl rfl rfl rfl rfl rfl rfl rfl rfl rfl rfl rfl rfl rfl rfl rfl rfl rfl rfl rfl rfl rfl rfl rfl rfl rfl rfl (zeC  ) (zhe  ) (zhc  ) (zc1  ) (zhd  ) (zfP  ) (zfu  ) (zfQ  ) (zfv  ) (zfR  ) (zfw  ) (zfS  ) (zfx  ) (zfT  ) (zfU  ) (zfV  ) (zfy  ) (zfW  ) (zfX  ) (zfz  ) (zfY  ) (zfZ  ) (zfA  ) (zc1  ) (zb8  ) (zf0  ) (zfB  ) (zb8  ) (zf1  ) (zf2  ) (zf3  ) (zf4  ) (zfC  ) (zfD  ) (zfE  ) (zfF  ) (zfG  ) (zfH  ) (zfI  ) (zfJ  ) (zfK  ) (zf5  ) (zfL  ) (zf6  ) (zfM  ) (zf7  ) (zfN  ) (zf8  ) (zfO  ) (zeD  )
end Go.Proofs.YtjcegdldgjphiaaGreatDoor
namespace Go.Proofs.YtjcegdldgjphiaaGreatDoor
open Go.RowKit Go.Shelf
structure wn_l_T where
 i:Int
 s:St
end Go.Proofs.YtjcegdldgjphiaaGreatDoor
namespace Go.Proofs.YtjcegdldgjphiaaGreatDoor
open Go.RowKit Go.Shelf
abbrev Val:=Int×Int×List UInt8×List Int×V3×List Pl×List Int
def cVal (v:Val):List Pred:=[pV (.int .u8 v.1),pI v.2.1,pS v.2.2.1,pLs cI v.2.2.2.1,pI v.2.2.2.2.1.1,pI v.2.2.2.2.1.2.1,pI v.2.2.2.2.1.2.2,pLs cPl v.2.2.2.2.2.1,pLs cI v.2.2.2.2.2.2]
def txV (v:Val):List UInt8:=v.2.2.1.take 100
def inV (v:Val):List Int:=v.2.2.2.1.take 20
def clV (v:Val):List Pl:=v.2.2.2.2.2.1.take 10
def raV (v:Val):RR:=rq (madeR (v.2.2.2.2.2.2.take 12))
structure OkV (u:Val):Prop where
 k:0≤u.1∧u.1<256
 n:InI u.2.1
 l:∀x∈u.2.2.2.1,InI x
 v:InV u.2.2.2.2.1
 c:∀x∈u.2.2.2.2.2.1,InP x
theorem zpA {α:Type} {l:List α} {n k:Nat} {m:Int} (h1:(l.length:Int)=m) (h2:(if (k:Int)<m then (k:Int) else m)=(n:Int)):l.take n=l.take k∧n≤l.length:=by
 split at h2
 ·rw [show n=k by omega];exact ⟨rfl,by omega⟩
 ·rw [show n=l.length by omega,List.take_of_length_le (Nat.le_refl _),List.take_of_length_le (by omega)];exact ⟨rfl,Nat.le_refl _⟩
theorem zuv {w0:World} (v_:Val) (v1:Int) (v2:Int) (n3:Nat) (v5:(List UInt8)) (e1:(((v_.2.2.1:List UInt8).length:Int))=v1) (e2:((if (100:Int)<v1 then (100:Int) else v1))=v2) (e5:((v_.2.2.1:List UInt8).take n3)=v5) (s4:v2=(n3:Int)) (s6:n3≤(v_.2.2.1:List UInt8).length):Fun (KN w0) Tryz.prog 39 [.o (.g [pV (.int .u8 v_.1),pI v_.2.1,pS v_.2.2.1,pLs cI v_.2.2.2.1,pI v_.2.2.2.2.1.1,pI v_.2.2.2.2.1.2.1,pI v_.2.2.2.2.1.2.2,pLs cPl v_.2.2.2.2.2.1,pLs cI v_.2.2.2.2.2.2])] (.o (.c (pS v5))):=
 zi (zl (F:=FL [pV (.int .u8 v_.1),pI v_.2.1,pS v_.2.2.1,pLs cI v_.2.2.2.1,pI v_.2.2.2.2.1.1,pI v_.2.2.2.2.1.2.1,pI v_.2.2.2.2.1.2.2,pLs cPl v_.2.2.2.2.2.1,pLs cI v_.2.2.2.2.2.2,pI v1,pI v2,pS v5] []) (C:=[(1000006,.op (.len [9] 3) [yh 2] [] (yh 9)),
  (1000007,.op (.min [3,3] 3) [yh 9,LF (.k (.int .i64 100))] [] (yh 10)),
  (1000008,.op (.sc 9 false true false) [yh 2,yh 10] [] (yh 11))]) (k:=⟨39,[.o (.g [.h 0,.h 1,.h 2,.h 3,.h 4,.h 5,.h 6,.h 7,.h 8])],[],yh 11,[]⟩) 0 (zf ⟨zb,zb,zb,(zt zo),zb,zb,zb,(zt zx),(zt zo),zb,zb,zb,trivial⟩) ⟨e_op1 (za rfl) (za rfl) (fun W=>by rw [← e1];exact zhL (by kernel_rfl) W),
  e_op2 (za rfl) zd (za rfl) (fun W=>by rw [← e2];exact zmz W),
  e_op2 (za rfl) (za rfl) (za rfl) (fun W=>by rw [← e5];exact zoq (by kernel_rfl) s4 s6 W),
  trivial⟩ mixed (by kernel_rfl))
theorem zr4 {w0:World} (v_:Val) (r:(List UInt8)) (hr:txV v_=r):Fun (KN w0) Tryz.prog 39 [.o (.g [pV (.int .u8 v_.1),pI v_.2.1,pS v_.2.2.1,pLs cI v_.2.2.2.1,pI v_.2.2.2.2.1.1,pI v_.2.2.2.2.1.2.1,pI v_.2.2.2.2.1.2.2,pLs cPl v_.2.2.2.2.2.1,pLs cI v_.2.2.2.2.2.2])] (.o (.c (pS r))):=by
 obtain ⟨v1,e1⟩:=yx (((v_.2.2.1:List UInt8).length:Int))
 obtain ⟨v2,e2⟩:=yx ((if (100:Int)<v1 then (100:Int) else v1))
 obtain ⟨n3,s4⟩:∃(n3:Nat),v2=(n3:Int):=by (refine ⟨v2.toNat,?_⟩;have t:=e2;split at t<;>omega)
 obtain ⟨v5,e5⟩:=yx ((v_.2.2.1:List UInt8).take n3)
 have s6:n3≤(v_.2.2.1:List UInt8).length:=by (exact (zpA (k:=100) e1 (e2.trans s4)).2)
 refine Fun.imp (zuv v_ v1 v2 n3 v5 e1 e2 e5 s4 s6) (fun _ _ _ h=>h) (fun v W D h=>?_)
 have r0:r=v5:=by
  rw [← hr,← e5,(zpA (k:=100) e1 (e2.trans s4)).1];rfl
 rw [r0];exact h
theorem zuh {w0:World} (v_:Val) (v1:Int) (v2:Int) (n3:Nat) (v5:(List Int)) (e1:((v_.2.2.2.1.length:Int))=v1) (e2:((if (20:Int)<v1 then (20:Int) else v1))=v2) (e5:(v_.2.2.2.1.take n3)=v5) (s4:v2=(n3:Int)) (s6:n3≤v_.2.2.2.1.length):Fun (KN w0) Tryz.prog 11 [.o (.g [pV (.int .u8 v_.1),pI v_.2.1,pS v_.2.2.1,pLs cI v_.2.2.2.1,pI v_.2.2.2.2.1.1,pI v_.2.2.2.2.1.2.1,pI v_.2.2.2.2.1.2.2,pLs cPl v_.2.2.2.2.2.1,pLs cI v_.2.2.2.2.2.2])] (.o (.c (pLs cI v5))):=
 zi (zl (F:=FL [pV (.int .u8 v_.1),pI v_.2.1,pS v_.2.2.1,pLs cI v_.2.2.2.1,pI v_.2.2.2.2.1.1,pI v_.2.2.2.2.1.2.1,pI v_.2.2.2.2.1.2.2,pLs cPl v_.2.2.2.2.2.1,pLs cI v_.2.2.2.2.2.2,pI v1,pI v2,pLs cI v5] []) (C:=[(1000006,.op (.len [22] 3) [yh 3] [] (yh 9)),
  (1000007,.op (.min [3,3] 3) [yh 9,LF (.k (.int .i64 20))] [] (yh 10)),
  (1000008,.op (.sc 22 false true false) [yh 3,yh 10] [] (yh 11))]) (k:=⟨11,[.o (.g [.h 0,.h 1,.h 2,.h 3,.h 4,.h 5,.h 6,.h 7,.h 8])],[],yh 11,[]⟩) 0 (zf ⟨zb,zb,zb,(zt zo),zb,zb,zb,(zt zx),(zt zo),zb,zb,(zt zo),trivial⟩) ⟨qp (E:=3) (by kernel_rfl) (zc rfl) (za (by rw [← e1];rfl)),
  e_op2 (za rfl) zd (za rfl) (fun W=>by rw [← e2];exact zmz W),
  zq9 (E:=3) (z:=1) (fun _=>rfl) (by kernel_rfl) (by kernel_rfl) (zc rfl) (za rfl) s4 s6 (zc (by rw [e5];rfl)),
  trivial⟩ mixed (by kernel_rfl))
theorem zq0 {w0:World} (v_:Val) (r:(List Int)) (hr:inV v_=r):Fun (KN w0) Tryz.prog 11 [.o (.g [pV (.int .u8 v_.1),pI v_.2.1,pS v_.2.2.1,pLs cI v_.2.2.2.1,pI v_.2.2.2.2.1.1,pI v_.2.2.2.2.1.2.1,pI v_.2.2.2.2.1.2.2,pLs cPl v_.2.2.2.2.2.1,pLs cI v_.2.2.2.2.2.2])] (.o (.c (pLs cI r))):=by
 obtain ⟨v1,e1⟩:=yx ((v_.2.2.2.1.length:Int))
 obtain ⟨v2,e2⟩:=yx ((if (20:Int)<v1 then (20:Int) else v1))
 obtain ⟨n3,s4⟩:∃(n3:Nat),v2=(n3:Int):=by (refine ⟨v2.toNat,?_⟩;have t:=e2;split at t<;>omega)
 obtain ⟨v5,e5⟩:=yx (v_.2.2.2.1.take n3)
 have s6:n3≤v_.2.2.2.1.length:=by (exact (zpA (k:=20) e1 (e2.trans s4)).2)
 refine Fun.imp (zuh v_ v1 v2 n3 v5 e1 e2 e5 s4 s6) (fun _ _ _ h=>h) (fun v W D h=>?_)
 have r0:r=v5:=by
  rw [← hr,← e5,(zpA (k:=20) e1 (e2.trans s4)).1];rfl
 rw [r0];exact h
theorem zug {w0:World} (v_:Val) (v1:Int) (v2:Int) (n3:Nat) (v5:(List Pl)) (e1:((v_.2.2.2.2.2.1.length:Int))=v1) (e2:((if (10:Int)<v1 then (10:Int) else v1))=v2) (e5:(v_.2.2.2.2.2.1.take n3)=v5) (s4:v2=(n3:Int)) (s6:n3≤v_.2.2.2.2.2.1.length):Fun (KN w0) Tryz.prog 40 [.o (.g [pV (.int .u8 v_.1),pI v_.2.1,pS v_.2.2.1,pLs cI v_.2.2.2.1,pI v_.2.2.2.2.1.1,pI v_.2.2.2.2.1.2.1,pI v_.2.2.2.2.1.2.2,pLs cPl v_.2.2.2.2.2.1,pLs cI v_.2.2.2.2.2.2])] (.o (.c (pLs cPl v5))):=
 zi (zl (F:=FL [pV (.int .u8 v_.1),pI v_.2.1,pS v_.2.2.1,pLs cI v_.2.2.2.1,pI v_.2.2.2.2.1.1,pI v_.2.2.2.2.1.2.1,pI v_.2.2.2.2.1.2.2,pLs cPl v_.2.2.2.2.2.1,pLs cI v_.2.2.2.2.2.2,pI v1,pI v2,pLs cPl v5] []) (C:=[(1000006,.op (.len [25] 3) [yh 7] [] (yh 9)),
  (1000007,.op (.min [3,3] 3) [yh 9,LF (.k (.int .i64 10))] [] (yh 10)),
  (1000008,.op (.sc 25 false true false) [yh 7,yh 10] [] (yh 11))]) (k:=⟨40,[.o (.g [.h 0,.h 1,.h 2,.h 3,.h 4,.h 5,.h 6,.h 7,.h 8])],[],yh 11,[]⟩) 0 (zf ⟨zb,zb,zb,(zt zo),zb,zb,zb,(zt zx),(zt zo),zb,zb,(zt zx),trivial⟩) ⟨qp (E:=69) (by kernel_rfl) (zc rfl) (za (by rw [← e1];rfl)),
  e_op2 (za rfl) zd (za rfl) (fun W=>by rw [← e2];exact zmz W),
  zq9 (E:=69) (z:=4) (fun _=>rfl) (by kernel_rfl) (by kernel_rfl) (zc rfl) (za rfl) s4 s6 (zc (by rw [e5];rfl)),
  trivial⟩ mixed (by kernel_rfl))
theorem zr3 {w0:World} (v_:Val) (r:(List Pl)) (hr:clV v_=r):Fun (KN w0) Tryz.prog 40 [.o (.g [pV (.int .u8 v_.1),pI v_.2.1,pS v_.2.2.1,pLs cI v_.2.2.2.1,pI v_.2.2.2.2.1.1,pI v_.2.2.2.2.1.2.1,pI v_.2.2.2.2.1.2.2,pLs cPl v_.2.2.2.2.2.1,pLs cI v_.2.2.2.2.2.2])] (.o (.c (pLs cPl r))):=by
 obtain ⟨v1,e1⟩:=yx ((v_.2.2.2.2.2.1.length:Int))
 obtain ⟨v2,e2⟩:=yx ((if (10:Int)<v1 then (10:Int) else v1))
 obtain ⟨n3,s4⟩:∃(n3:Nat),v2=(n3:Int):=by (refine ⟨v2.toNat,?_⟩;have t:=e2;split at t<;>omega)
 obtain ⟨v5,e5⟩:=yx (v_.2.2.2.2.2.1.take n3)
 have s6:n3≤v_.2.2.2.2.2.1.length:=by (exact (zpA (k:=10) e1 (e2.trans s4)).2)
 refine Fun.imp (zug v_ v1 v2 n3 v5 e1 e2 e5 s4 s6) (fun _ _ _ h=>h) (fun v W D h=>?_)
 have r0:r=v5:=by
  rw [← hr,← e5,(zpA (k:=10) e1 (e2.trans s4)).1];rfl
 rw [r0];exact h
theorem ztv {w0:World} (v_:Val) (v1:Int) (v2:Int) (n3:Nat) (v5:(List Int)) (v7:RR) (e1:((v_.2.2.2.2.2.2.length:Int))=v1) (e2:((if (12:Int)<v1 then (12:Int) else v1))=v2) (e5:(v_.2.2.2.2.2.2.take n3)=v5) (e7:(rq (madeR v5))=v7) (s4:v2=(n3:Int)) (s6:n3≤v_.2.2.2.2.2.2.length):Fun (KN w0) Tryz.prog 41 [.o (.g [pV (.int .u8 v_.1),pI v_.2.1,pS v_.2.2.1,pLs cI v_.2.2.2.1,pI v_.2.2.2.2.1.1,pI v_.2.2.2.2.1.2.1,pI v_.2.2.2.2.1.2.2,pLs cPl v_.2.2.2.2.2.1,pLs cI v_.2.2.2.2.2.2])] (.o (.g [pB v7.1.1,pD v7.1.2,pB v7.2.1,pD v7.2.2])):=
 zi (zl (F:=FL [pV (.int .u8 v_.1),pI v_.2.1,pS v_.2.2.1,pLs cI v_.2.2.2.1,pI v_.2.2.2.2.1.1,pI v_.2.2.2.2.1.2.1,pI v_.2.2.2.2.1.2.2,pLs cPl v_.2.2.2.2.2.1,pLs cI v_.2.2.2.2.2.2,pI v1,pI v2,pLs cI v5,pB v7.1.1,pD v7.1.2,pB v7.2.1,pD v7.2.2] []) (C:=[(1000006,.op (.len [22] 3) [yh 8] [] (yh 9)),
  (1000007,.op (.min [3,3] 3) [yh 9,LF (.k (.int .i64 12))] [] (yh 10)),
  (1000008,.op (.sc 22 false true false) [yh 8,yh 10] [] (yh 11)),
  (1000009,.call ⟨68,[yh 11],[],.o (.g [.h 12,.h 13,.h 14,.h 15]),[]⟩)]) (k:=⟨41,[.o (.g [.h 0,.h 1,.h 2,.h 3,.h 4,.h 5,.h 6,.h 7,.h 8])],[],.o (.g [.h 12,.h 13,.h 14,.h 15]),[]⟩) 0 (zf ⟨zb,zb,zb,(zt zo),zb,zb,zb,(zt zx),(zt zo),zb,zb,(zt zo),zb,zj,zb,zj,trivial⟩) ⟨qp (E:=3) (by kernel_rfl) (zc rfl) (za (by rw [← e1];rfl)),
  e_op2 (za rfl) zd (za rfl) (fun W=>by rw [← e2];exact zmz W),
  zq9 (E:=3) (z:=1) (fun _=>rfl) (by kernel_rfl) (by kernel_rfl) (zc rfl) (za rfl) s4 s6 (zc (by rw [e5];rfl)),
  ze (zwo v5 v7 e7),
  trivial⟩ mixed (by kernel_rfl))
theorem zqz {w0:World} (v_:Val) (r:RR) (hr:raV v_=r):Fun (KN w0) Tryz.prog 41 [.o (.g [pV (.int .u8 v_.1),pI v_.2.1,pS v_.2.2.1,pLs cI v_.2.2.2.1,pI v_.2.2.2.2.1.1,pI v_.2.2.2.2.1.2.1,pI v_.2.2.2.2.1.2.2,pLs cPl v_.2.2.2.2.2.1,pLs cI v_.2.2.2.2.2.2])] (.o (.g [pB r.1.1,pD r.1.2,pB r.2.1,pD r.2.2])):=by
 obtain ⟨v1,e1⟩:=yx ((v_.2.2.2.2.2.2.length:Int))
 obtain ⟨v2,e2⟩:=yx ((if (12:Int)<v1 then (12:Int) else v1))
 obtain ⟨n3,s4⟩:∃(n3:Nat),v2=(n3:Int):=by (refine ⟨v2.toNat,?_⟩;have t:=e2;split at t<;>omega)
 obtain ⟨v5,e5⟩:=yx (v_.2.2.2.2.2.2.take n3)
 have s6:n3≤v_.2.2.2.2.2.2.length:=by (exact (zpA (k:=12) e1 (e2.trans s4)).2)
 obtain ⟨v7,e7⟩:=yx (rq (madeR v5))
 refine Fun.imp (ztv v_ v1 v2 n3 v5 v7 e1 e2 e5 e7 s4 s6) (fun _ _ _ h=>h) (fun v W D h=>?_)
 have r0:r=v7:=by
  rw [← hr,← e7,← e5,(zpA (k:=12) e1 (e2.trans s4)).1];rfl
 rw [r0];exact h
def byV (c:Int) (v:Val):List UInt8:=if c=0 then encI v.2.1 else if c=1 then encT (txV v) else if c=2 then encL encI (inV v) else if c=3 then encV v.2.2.2.2.1 else if c=4 then encL encP (clV v) else encRS (raV v)
theorem zuf (v:Val):TxW (txV v):=by
 unfold TxW txV
 rw [List.length_take];omega
theorem zvj (v:Val):TxW (textR (raV v)):=by
 obtain ⟨t,ht,hl,_⟩:=zqq (v.2.2.2.2.2.2.take 12)
 unfold TxW raV
 rw [ht];omega
theorem zpu {v:Val} (h:OkV v):(∀x∈inV v,InI x)∧(inV v).length≤20:=⟨fun x hx=>h.l x (List.mem_of_mem_take hx),by unfold inV;rw [List.length_take];omega⟩
theorem zpE {v:Val} (h:OkV v):(∀x∈clV v,InP x)∧(clV v).length≤10:=⟨fun x hx=>h.c x (List.mem_of_mem_take hx),by unfold clV;rw [List.length_take];omega⟩
theorem ztp {w0:World} (v_:Val) (k:Int) (hM:LM w0) (hTS:LS w0) (v1:Int) (v2:Bool) (v4:(List UInt8)) (e1:((k:Int).tmod (6:Int))=v1) (e2:((v1 == (0:Int)))=v2) (e4:(encI v_.2.1)=v4) (h3:v2=true) (s5:InI v_.2.1):Fun (KN w0) Tryz.prog 14 [.o (.g [pV (.int .u8 v_.1),pI v_.2.1,pS v_.2.2.1,pLs cI v_.2.2.2.1,pI v_.2.2.2.2.1.1,pI v_.2.2.2.2.1.2.1,pI v_.2.2.2.2.1.2.2,pLs cPl v_.2.2.2.2.2.1,pLs cI v_.2.2.2.2.2.2]),.o (.c (pV (.int .u8 k)))] (.o (.c (pS v4))):=
 zi (zl (F:=FL [pV (.int .u8 v_.1),pI v_.2.1,pS v_.2.2.1,pLs cI v_.2.2.2.1,pI v_.2.2.2.2.1.1,pI v_.2.2.2.2.1.2.1,pI v_.2.2.2.2.1.2.2,pLs cPl v_.2.2.2.2.2.1,pLs cI v_.2.2.2.2.2.2,pV (.int .u8 k),pV (.int .u8 v1),pB v2,pS v4] []) (C:=[(1000003,.bin .rem 5 (yh 9) (LF (.k (.int .u8 6))) (yh 10)),
  (1000004,.bin .eql 5 (yh 10) (LF (.k (.int .u8 0))) (yh 11)),
  (10011,.fb 11 true),
  (1000008,.call ⟨12,[yh 1],[],yh 12,[]⟩)]) (k:=⟨14,[.o (.g [.h 0,.h 1,.h 2,.h 3,.h 4,.h 5,.h 6,.h 7,.h 8]),yh 9],[],yh 12,[]⟩) 0 (zf ⟨zb,zb,zb,(zt zo),zb,zb,zb,(zt zx),(zt zo),zb,zb,zb,zb,trivial⟩) ⟨e_bin (za rfl) zd (za rfl) (r_ar ((zn2 (by decide)).trans (congrArg some e1))),
  e_bin (za rfl) zd (za rfl) (r_cmp (congrArg some e2)),
  e_fbv h3,
  ze (w_int v_.2.1 v4 e4 s5),
  trivial⟩ mixed (by kernel_rfl))
theorem ztq {w0:World} (v_:Val) (k:Int) (hM:LM w0) (hTS:LS w0) (v1:Int) (v2:Bool) (v4:Bool) (v6:(List UInt8)) (v7:(List UInt8)) (e1:((k:Int).tmod (6:Int))=v1) (e2:((v1 == (0:Int)))=v2) (e4:((v1 == (1:Int)))=v4) (e6:(txV v_)=v6) (e7:(encT v6)=v7) (h3:v2=false) (h5:v4=true) (s8:TxW v6):Fun (KN w0) Tryz.prog 14 [.o (.g [pV (.int .u8 v_.1),pI v_.2.1,pS v_.2.2.1,pLs cI v_.2.2.2.1,pI v_.2.2.2.2.1.1,pI v_.2.2.2.2.1.2.1,pI v_.2.2.2.2.1.2.2,pLs cPl v_.2.2.2.2.2.1,pLs cI v_.2.2.2.2.2.2]),.o (.c (pV (.int .u8 k)))] (.o (.c (pS v7))):=
 zi (zl (F:=FL [pV (.int .u8 v_.1),pI v_.2.1,pS v_.2.2.1,pLs cI v_.2.2.2.1,pI v_.2.2.2.2.1.1,pI v_.2.2.2.2.1.2.1,pI v_.2.2.2.2.1.2.2,pLs cPl v_.2.2.2.2.2.1,pLs cI v_.2.2.2.2.2.2,pV (.int .u8 k),pV (.int .u8 v1),pB v2,pB v4,pS v6,pS v7] []) (C:=[(1000003,.bin .rem 5 (yh 9) (LF (.k (.int .u8 6))) (yh 10)),
  (1000004,.bin .eql 5 (yh 10) (LF (.k (.int .u8 0))) (yh 11)),
  (10011,.fb 11 false),
  (1000006,.bin .eql 5 (yh 10) (LF (.k (.int .u8 1))) (yh 12)),
  (10012,.fb 12 true),
  (1000009,.call ⟨39,[.o (.g [.h 0,.h 1,.h 2,.h 3,.h 4,.h 5,.h 6,.h 7,.h 8])],[],yh 13,[]⟩),
  (1000010,.call ⟨30,[yh 13],[],yh 14,[]⟩)]) (k:=⟨14,[.o (.g [.h 0,.h 1,.h 2,.h 3,.h 4,.h 5,.h 6,.h 7,.h 8]),yh 9],[],yh 14,[]⟩) 0 (zf ⟨zb,zb,zb,(zt zo),zb,zb,zb,(zt zx),(zt zo),zb,zb,zb,zb,zb,zb,trivial⟩) ⟨e_bin (za rfl) zd (za rfl) (r_ar ((zn2 (by decide)).trans (congrArg some e1))),
  e_bin (za rfl) zd (za rfl) (r_cmp (congrArg some e2)),
  e_fbv h3,
  e_bin (za rfl) zd (za rfl) (r_cmp (congrArg some e4)),
  e_fbv h5,
  ze (zr4 v_ v6 e6),
  ze (zmH v6 v7 e7 s8),
  trivial⟩ mixed (by kernel_rfl))
theorem ztr {w0:World} (v_:Val) (k:Int) (hM:LM w0) (hTS:LS w0) (v1:Int) (v2:Bool) (v4:Bool) (v6:Bool) (v8:(List Int)) (v9:(List UInt8)) (e1:((k:Int).tmod (6:Int))=v1) (e2:((v1 == (0:Int)))=v2) (e4:((v1 == (1:Int)))=v4) (e6:((v1 == (2:Int)))=v6) (e8:(inV v_)=v8) (e9:(encL encI v8)=v9) (h3:v2=false) (h5:v4=false) (h7:v6=true) (s10:∀x∈v8,InI x) (s11:v8.length≤1000000):Fun (KN w0) Tryz.prog 14 [.o (.g [pV (.int .u8 v_.1),pI v_.2.1,pS v_.2.2.1,pLs cI v_.2.2.2.1,pI v_.2.2.2.2.1.1,pI v_.2.2.2.2.1.2.1,pI v_.2.2.2.2.1.2.2,pLs cPl v_.2.2.2.2.2.1,pLs cI v_.2.2.2.2.2.2]),.o (.c (pV (.int .u8 k)))] (.o (.c (pS v9))):=
 zi (zl (F:=FL [pV (.int .u8 v_.1),pI v_.2.1,pS v_.2.2.1,pLs cI v_.2.2.2.1,pI v_.2.2.2.2.1.1,pI v_.2.2.2.2.1.2.1,pI v_.2.2.2.2.1.2.2,pLs cPl v_.2.2.2.2.2.1,pLs cI v_.2.2.2.2.2.2,pV (.int .u8 k),pV (.int .u8 v1),pB v2,pB v4,pB v6,pLs cI v8,pS v9] []) (C:=[(1000003,.bin .rem 5 (yh 9) (LF (.k (.int .u8 6))) (yh 10)),
  (1000004,.bin .eql 5 (yh 10) (LF (.k (.int .u8 0))) (yh 11)),
  (10011,.fb 11 false),
  (1000006,.bin .eql 5 (yh 10) (LF (.k (.int .u8 1))) (yh 12)),
  (10012,.fb 12 false),
  (1000008,.bin .eql 5 (yh 10) (LF (.k (.int .u8 2))) (yh 13)),
  (10013,.fb 13 true),
  (1000011,.call ⟨11,[.o (.g [.h 0,.h 1,.h 2,.h 3,.h 4,.h 5,.h 6,.h 7,.h 8])],[],yh 14,[]⟩),
  (1000012,.call ⟨31,[yh 14],[],yh 15,[]⟩)]) (k:=⟨14,[.o (.g [.h 0,.h 1,.h 2,.h 3,.h 4,.h 5,.h 6,.h 7,.h 8]),yh 9],[],yh 15,[]⟩) 0 (zf ⟨zb,zb,zb,(zt zo),zb,zb,zb,(zt zx),(zt zo),zb,zb,zb,zb,zb,(zt zo),zb,trivial⟩) ⟨e_bin (za rfl) zd (za rfl) (r_ar ((zn2 (by decide)).trans (congrArg some e1))),
  e_bin (za rfl) zd (za rfl) (r_cmp (congrArg some e2)),
  e_fbv h3,
  e_bin (za rfl) zd (za rfl) (r_cmp (congrArg some e4)),
  e_fbv h5,
  e_bin (za rfl) zd (za rfl) (r_cmp (congrArg some e6)),
  e_fbv h7,
  ze (zq0 v_ v8 e8),
  ze (zoI v8 v9 e9 s10 s11),
  trivial⟩ mixed (by kernel_rfl))
theorem zts {w0:World} (v_:Val) (k:Int) (hM:LM w0) (hTS:LS w0) (v1:Int) (v2:Bool) (v4:Bool) (v6:Bool) (v8:Bool) (v10:(List UInt8)) (e1:((k:Int).tmod (6:Int))=v1) (e2:((v1 == (0:Int)))=v2) (e4:((v1 == (1:Int)))=v4) (e6:((v1 == (2:Int)))=v6) (e8:((v1 == (3:Int)))=v8) (e10:(encV v_.2.2.2.2.1)=v10) (h3:v2=false) (h5:v4=false) (h7:v6=false) (h9:v8=true) (s11:InV v_.2.2.2.2.1):Fun (KN w0) Tryz.prog 14 [.o (.g [pV (.int .u8 v_.1),pI v_.2.1,pS v_.2.2.1,pLs cI v_.2.2.2.1,pI v_.2.2.2.2.1.1,pI v_.2.2.2.2.1.2.1,pI v_.2.2.2.2.1.2.2,pLs cPl v_.2.2.2.2.2.1,pLs cI v_.2.2.2.2.2.2]),.o (.c (pV (.int .u8 k)))] (.o (.c (pS v10))):=
 zi (zl (F:=FL [pV (.int .u8 v_.1),pI v_.2.1,pS v_.2.2.1,pLs cI v_.2.2.2.1,pI v_.2.2.2.2.1.1,pI v_.2.2.2.2.1.2.1,pI v_.2.2.2.2.1.2.2,pLs cPl v_.2.2.2.2.2.1,pLs cI v_.2.2.2.2.2.2,pV (.int .u8 k),pV (.int .u8 v1),pB v2,pB v4,pB v6,pB v8,pS v10] []) (C:=[(1000003,.bin .rem 5 (yh 9) (LF (.k (.int .u8 6))) (yh 10)),
  (1000004,.bin .eql 5 (yh 10) (LF (.k (.int .u8 0))) (yh 11)),
  (10011,.fb 11 false),
  (1000006,.bin .eql 5 (yh 10) (LF (.k (.int .u8 1))) (yh 12)),
  (10012,.fb 12 false),
  (1000008,.bin .eql 5 (yh 10) (LF (.k (.int .u8 2))) (yh 13)),
  (10013,.fb 13 false),
  (1000010,.bin .eql 5 (yh 10) (LF (.k (.int .u8 3))) (yh 14)),
  (10014,.fb 14 true),
  (1000014,.call ⟨32,[.o (.g [.h 4,.h 5,.h 6])],[],yh 15,[]⟩)]) (k:=⟨14,[.o (.g [.h 0,.h 1,.h 2,.h 3,.h 4,.h 5,.h 6,.h 7,.h 8]),yh 9],[],yh 15,[]⟩) 0 (zf ⟨zb,zb,zb,(zt zo),zb,zb,zb,(zt zx),(zt zo),zb,zb,zb,zb,zb,zb,zb,trivial⟩) ⟨e_bin (za rfl) zd (za rfl) (r_ar ((zn2 (by decide)).trans (congrArg some e1))),
  e_bin (za rfl) zd (za rfl) (r_cmp (congrArg some e2)),
  e_fbv h3,
  e_bin (za rfl) zd (za rfl) (r_cmp (congrArg some e4)),
  e_fbv h5,
  e_bin (za rfl) zd (za rfl) (r_cmp (congrArg some e6)),
  e_fbv h7,
  e_bin (za rfl) zd (za rfl) (r_cmp (congrArg some e8)),
  e_fbv h9,
  ze (w_vec v_.2.2.2.2.1 v10 e10 s11),
  trivial⟩ mixed (by kernel_rfl))
theorem ztt {w0:World} (v_:Val) (k:Int) (hM:LM w0) (hTS:LS w0) (v1:Int) (v2:Bool) (v4:Bool) (v6:Bool) (v8:Bool) (v10:Bool) (v12:(List Pl)) (v13:(List UInt8)) (e1:((k:Int).tmod (6:Int))=v1) (e2:((v1 == (0:Int)))=v2) (e4:((v1 == (1:Int)))=v4) (e6:((v1 == (2:Int)))=v6) (e8:((v1 == (3:Int)))=v8) (e10:((v1 == (4:Int)))=v10) (e12:(clV v_)=v12) (e13:(encL encP v12)=v13) (h3:v2=false) (h5:v4=false) (h7:v6=false) (h9:v8=false) (h11:v10=true) (s14:∀x∈v12,InP x) (s15:v12.length≤1000000):Fun (KN w0) Tryz.prog 14 [.o (.g [pV (.int .u8 v_.1),pI v_.2.1,pS v_.2.2.1,pLs cI v_.2.2.2.1,pI v_.2.2.2.2.1.1,pI v_.2.2.2.2.1.2.1,pI v_.2.2.2.2.1.2.2,pLs cPl v_.2.2.2.2.2.1,pLs cI v_.2.2.2.2.2.2]),.o (.c (pV (.int .u8 k)))] (.o (.c (pS v13))):=
 zi (zl (F:=FL [pV (.int .u8 v_.1),pI v_.2.1,pS v_.2.2.1,pLs cI v_.2.2.2.1,pI v_.2.2.2.2.1.1,pI v_.2.2.2.2.1.2.1,pI v_.2.2.2.2.1.2.2,pLs cPl v_.2.2.2.2.2.1,pLs cI v_.2.2.2.2.2.2,pV (.int .u8 k),pV (.int .u8 v1),pB v2,pB v4,pB v6,pB v8,pB v10,pLs cPl v12,pS v13] []) (C:=[(1000003,.bin .rem 5 (yh 9) (LF (.k (.int .u8 6))) (yh 10)),
  (1000004,.bin .eql 5 (yh 10) (LF (.k (.int .u8 0))) (yh 11)),
  (10011,.fb 11 false),
  (1000006,.bin .eql 5 (yh 10) (LF (.k (.int .u8 1))) (yh 12)),
  (10012,.fb 12 false),
  (1000008,.bin .eql 5 (yh 10) (LF (.k (.int .u8 2))) (yh 13)),
  (10013,.fb 13 false),
  (1000010,.bin .eql 5 (yh 10) (LF (.k (.int .u8 3))) (yh 14)),
  (10014,.fb 14 false),
  (1000012,.bin .eql 5 (yh 10) (LF (.k (.int .u8 4))) (yh 15)),
  (10015,.fb 15 true),
  (1000015,.call ⟨40,[.o (.g [.h 0,.h 1,.h 2,.h 3,.h 4,.h 5,.h 6,.h 7,.h 8])],[],yh 16,[]⟩),
  (1000016,.call ⟨33,[yh 16],[],yh 17,[]⟩)]) (k:=⟨14,[.o (.g [.h 0,.h 1,.h 2,.h 3,.h 4,.h 5,.h 6,.h 7,.h 8]),yh 9],[],yh 17,[]⟩) 0 (zf ⟨zb,zb,zb,(zt zo),zb,zb,zb,(zt zx),(zt zo),zb,zb,zb,zb,zb,zb,zb,(zt zx),zb,trivial⟩) ⟨e_bin (za rfl) zd (za rfl) (r_ar ((zn2 (by decide)).trans (congrArg some e1))),
  e_bin (za rfl) zd (za rfl) (r_cmp (congrArg some e2)),
  e_fbv h3,
  e_bin (za rfl) zd (za rfl) (r_cmp (congrArg some e4)),
  e_fbv h5,
  e_bin (za rfl) zd (za rfl) (r_cmp (congrArg some e6)),
  e_fbv h7,
  e_bin (za rfl) zd (za rfl) (r_cmp (congrArg some e8)),
  e_fbv h9,
  e_bin (za rfl) zd (za rfl) (r_cmp (congrArg some e10)),
  e_fbv h11,
  ze (zr3 v_ v12 e12),
  ze (zmG v12 v13 e13 s14 s15),
  trivial⟩ mixed (by kernel_rfl))
theorem ztu {w0:World} (v_:Val) (k:Int) (hM:LM w0) (hTS:LS w0) (v1:Int) (v2:Bool) (v4:Bool) (v6:Bool) (v8:Bool) (v10:Bool) (v12:RR) (v13:(List UInt8)) (e1:((k:Int).tmod (6:Int))=v1) (e2:((v1 == (0:Int)))=v2) (e4:((v1 == (1:Int)))=v4) (e6:((v1 == (2:Int)))=v6) (e8:((v1 == (3:Int)))=v8) (e10:((v1 == (4:Int)))=v10) (e12:(raV v_)=v12) (e13:(encRS v12)=v13) (h3:v2=false) (h5:v4=false) (h7:v6=false) (h9:v8=false) (h11:v10=false) (s14:TxW (textR v12)):Fun (KN w0) Tryz.prog 14 [.o (.g [pV (.int .u8 v_.1),pI v_.2.1,pS v_.2.2.1,pLs cI v_.2.2.2.1,pI v_.2.2.2.2.1.1,pI v_.2.2.2.2.1.2.1,pI v_.2.2.2.2.1.2.2,pLs cPl v_.2.2.2.2.2.1,pLs cI v_.2.2.2.2.2.2]),.o (.c (pV (.int .u8 k)))] (.o (.c (pS v13))):=
 zi (zl (F:=FL [pV (.int .u8 v_.1),pI v_.2.1,pS v_.2.2.1,pLs cI v_.2.2.2.1,pI v_.2.2.2.2.1.1,pI v_.2.2.2.2.1.2.1,pI v_.2.2.2.2.1.2.2,pLs cPl v_.2.2.2.2.2.1,pLs cI v_.2.2.2.2.2.2,pV (.int .u8 k),pV (.int .u8 v1),pB v2,pB v4,pB v6,pB v8,pB v10,pB v12.1.1,pD v12.1.2,pB v12.2.1,pD v12.2.2,pS v13] []) (C:=[(1000003,.bin .rem 5 (yh 9) (LF (.k (.int .u8 6))) (yh 10)),
  (1000004,.bin .eql 5 (yh 10) (LF (.k (.int .u8 0))) (yh 11)),
  (10011,.fb 11 false),
  (1000006,.bin .eql 5 (yh 10) (LF (.k (.int .u8 1))) (yh 12)),
  (10012,.fb 12 false),
  (1000008,.bin .eql 5 (yh 10) (LF (.k (.int .u8 2))) (yh 13)),
  (10013,.fb 13 false),
  (1000010,.bin .eql 5 (yh 10) (LF (.k (.int .u8 3))) (yh 14)),
  (10014,.fb 14 false),
  (1000012,.bin .eql 5 (yh 10) (LF (.k (.int .u8 4))) (yh 15)),
  (10015,.fb 15 false),
  (1000015,.call ⟨41,[.o (.g [.h 0,.h 1,.h 2,.h 3,.h 4,.h 5,.h 6,.h 7,.h 8])],[],.o (.g [.h 16,.h 17,.h 18,.h 19]),[]⟩),
  (1000016,.call ⟨16,[.o (.g [.h 16,.h 17,.h 18,.h 19])],[],yh 20,[]⟩)]) (k:=⟨14,[.o (.g [.h 0,.h 1,.h 2,.h 3,.h 4,.h 5,.h 6,.h 7,.h 8]),yh 9],[],yh 20,[]⟩) 0 (zf ⟨zb,zb,zb,(zt zo),zb,zb,zb,(zt zx),(zt zo),zb,zb,zb,zb,zb,zb,zb,zb,zj,zb,zj,zb,trivial⟩) ⟨e_bin (za rfl) zd (za rfl) (r_ar ((zn2 (by decide)).trans (congrArg some e1))),
  e_bin (za rfl) zd (za rfl) (r_cmp (congrArg some e2)),
  e_fbv h3,
  e_bin (za rfl) zd (za rfl) (r_cmp (congrArg some e4)),
  e_fbv h5,
  e_bin (za rfl) zd (za rfl) (r_cmp (congrArg some e6)),
  e_fbv h7,
  e_bin (za rfl) zd (za rfl) (r_cmp (congrArg some e8)),
  e_fbv h9,
  e_bin (za rfl) zd (za rfl) (r_cmp (congrArg some e10)),
  e_fbv h11,
  ze (zqz v_ v12 e12),
  ze (zkB hM hTS v12 v13 e13 s14),
  trivial⟩ mixed (by kernel_rfl))
theorem zp0 {w0:World} (hM:LM w0) (hTS:LS w0) (v_:Val) (k:Int) (r:List UInt8) (hr:byV (k.tmod 6) v_=r) (hv:OkV v_):Fun (KN w0) Tryz.prog 14 [.o (.g [pV (.int .u8 v_.1),pI v_.2.1,pS v_.2.2.1,pLs cI v_.2.2.2.1,pI v_.2.2.2.2.1.1,pI v_.2.2.2.2.1.2.1,pI v_.2.2.2.2.1.2.2,pLs cPl v_.2.2.2.2.2.1,pLs cI v_.2.2.2.2.2.2]),.o (.c (pV (.int .u8 k)))] (.o (.c (pS r))):=by
 obtain ⟨v1,e1⟩:=yx ((k:Int).tmod (6:Int))
 obtain ⟨v2,e2⟩:=yx ((v1 == (0:Int)))
 cases h3:v2 with
 | true =>
  obtain ⟨v4,e4⟩:=yx (encI v_.2.1)
  have s5:InI v_.2.1:=by exact hv.n
  refine Fun.imp (ztp v_ k hM hTS v1 v2 v4 e1 e2 e4 h3 s5) (fun _ _ _ h=>h) (fun v W D h=>?_)
  have r0:r=v4:=by
   have q0:=eq_of_beq (e2.trans h3)
   rw [← hr];unfold byV;rw [e1];rw [if_pos q0];rw [e4]
  rw [r0];exact h
 | false =>
  obtain ⟨v4,e4⟩:=yx ((v1 == (1:Int)))
  cases h5:v4 with
  | true =>
   obtain ⟨v6,e6⟩:=yx (txV v_)
   obtain ⟨v7,e7⟩:=yx (encT v6)
   have s8:TxW v6:=by (subst_vars;exact zuf _)
   refine Fun.imp (ztq v_ k hM hTS v1 v2 v4 v6 v7 e1 e2 e4 e6 e7 h3 h5 s8) (fun _ _ _ h=>h) (fun v W D h=>?_)
   have r0:r=v7:=by
    have q0:=ne_of_beq_false (e2.trans h3)
    have q1:=eq_of_beq (e4.trans h5)
    rw [← hr];unfold byV;rw [e1];rw [if_neg q0,if_pos q1];rw [e6,e7]
   rw [r0];exact h
  | false =>
   obtain ⟨v6,e6⟩:=yx ((v1 == (2:Int)))
   cases h7:v6 with
   | true =>
    obtain ⟨v8,e8⟩:=yx (inV v_)
    obtain ⟨v9,e9⟩:=yx (encL encI v8)
    have s10:∀x∈v8,InI x:=by (subst_vars;exact (zpu hv).1)
    have s11:v8.length≤1000000:=by (subst_vars;first | exact Nat.le_trans (zpu hv).2 (by decide) | exact Nat.le_trans (zpE hv).2 (by decide))
    refine Fun.imp (ztr v_ k hM hTS v1 v2 v4 v6 v8 v9 e1 e2 e4 e6 e8 e9 h3 h5 h7 s10 s11) (fun _ _ _ h=>h) (fun v W D h=>?_)
    have r0:r=v9:=by
     have q0:=ne_of_beq_false (e2.trans h3)
     have q1:=ne_of_beq_false (e4.trans h5)
     have q2:=eq_of_beq (e6.trans h7)
     rw [← hr];unfold byV;rw [e1];rw [if_neg q0,if_neg q1,if_pos q2];rw [e8,e9]
    rw [r0];exact h
   | false =>
    obtain ⟨v8,e8⟩:=yx ((v1 == (3:Int)))
    cases h9:v8 with
    | true =>
     obtain ⟨v10,e10⟩:=yx (encV v_.2.2.2.2.1)
     have s11:InV v_.2.2.2.2.1:=by exact hv.v
     refine Fun.imp (zts v_ k hM hTS v1 v2 v4 v6 v8 v10 e1 e2 e4 e6 e8 e10 h3 h5 h7 h9 s11) (fun _ _ _ h=>h) (fun v W D h=>?_)
     have r0:r=v10:=by
      have q0:=ne_of_beq_false (e2.trans h3)
      have q1:=ne_of_beq_false (e4.trans h5)
      have q2:=ne_of_beq_false (e6.trans h7)
      have q3:=eq_of_beq (e8.trans h9)
      rw [← hr];unfold byV;rw [e1];rw [if_neg q0,if_neg q1,if_neg q2,if_pos q3];rw [e10]
     rw [r0];exact h
    | false =>
     obtain ⟨v10,e10⟩:=yx ((v1 == (4:Int)))
     cases h11:v10 with
     | true =>
      obtain ⟨v12,e12⟩:=yx (clV v_)
      obtain ⟨v13,e13⟩:=yx (encL encP v12)
      have s14:∀x∈v12,InP x:=by (subst_vars;exact (zpE hv).1)
      have s15:v12.length≤1000000:=by (subst_vars;first | exact Nat.le_trans (zpu hv).2 (by decide) | exact Nat.le_trans (zpE hv).2 (by decide))
      refine Fun.imp (ztt v_ k hM hTS v1 v2 v4 v6 v8 v10 v12 v13 e1 e2 e4 e6 e8 e10 e12 e13 h3 h5 h7 h9 h11 s14 s15) (fun _ _ _ h=>h) (fun v W D h=>?_)
      have r0:r=v13:=by
       have q0:=ne_of_beq_false (e2.trans h3)
       have q1:=ne_of_beq_false (e4.trans h5)
       have q2:=ne_of_beq_false (e6.trans h7)
       have q3:=ne_of_beq_false (e8.trans h9)
       have q4:=eq_of_beq (e10.trans h11)
       rw [← hr];unfold byV;rw [e1];rw [if_neg q0,if_neg q1,if_neg q2,if_neg q3,if_pos q4];rw [e12,e13]
      rw [r0];exact h
     | false =>
      obtain ⟨v12,e12⟩:=yx (raV v_)
      obtain ⟨v13,e13⟩:=yx (encRS v12)
      have s14:TxW (textR v12):=by (subst_vars;exact zvj _)
      refine Fun.imp (ztu v_ k hM hTS v1 v2 v4 v6 v8 v10 v12 v13 e1 e2 e4 e6 e8 e10 e12 e13 h3 h5 h7 h9 h11 s14) (fun _ _ _ h=>h) (fun v W D h=>?_)
      have r0:r=v13:=by
       have q0:=ne_of_beq_false (e2.trans h3)
       have q1:=ne_of_beq_false (e4.trans h5)
       have q2:=ne_of_beq_false (e6.trans h7)
       have q3:=ne_of_beq_false (e8.trans h9)
       have q4:=ne_of_beq_false (e10.trans h11)
       rw [← hr];unfold byV;rw [e1];rw [if_neg q0,if_neg q1,if_neg q2,if_neg q3,if_neg q4];rw [e12,e13]
      rw [r0];exact h
theorem zu8 {w0:World} (v_:Val) (v1:Int) (v2:Bool) (v4:(List UInt8)) (e1:((v_.1:Int).tmod (6:Int))=v1) (e2:((v1 == (0:Int)))=v2) (e4:(encI v_.2.1)=v4) (h3:v2=true) (s5:InI v_.2.1):Fun (KN w0) Tryz.prog 15 [.o (.g [pV (.int .u8 v_.1),pI v_.2.1,pS v_.2.2.1,pLs cI v_.2.2.2.1,pI v_.2.2.2.2.1.1,pI v_.2.2.2.2.1.2.1,pI v_.2.2.2.2.1.2.2,pLs cPl v_.2.2.2.2.2.1,pLs cI v_.2.2.2.2.2.2])] (.o (.c (pS v4))):=
 zi (zl (F:=FL [pV (.int .u8 v_.1),pI v_.2.1,pS v_.2.2.1,pLs cI v_.2.2.2.1,pI v_.2.2.2.2.1.1,pI v_.2.2.2.2.1.2.1,pI v_.2.2.2.2.1.2.2,pLs cPl v_.2.2.2.2.2.1,pLs cI v_.2.2.2.2.2.2,pV (.int .u8 v1),pB v2,pS v4] []) (C:=[(1000004,.bin .rem 5 (yh 0) (LF (.k (.int .u8 6))) (yh 9)),
  (1000005,.bin .eql 5 (yh 9) (LF (.k (.int .u8 0))) (yh 10)),
  (10010,.fb 10 true),
  (1000009,.call ⟨13,[yh 1],[],yh 11,[]⟩)]) (k:=⟨15,[.o (.g [.h 0,.h 1,.h 2,.h 3,.h 4,.h 5,.h 6,.h 7,.h 8])],[],yh 11,[]⟩) 0 (zf ⟨zb,zb,zb,(zt zo),zb,zb,zb,(zt zx),(zt zo),zb,zb,zb,trivial⟩) ⟨e_bin (za rfl) zd (za rfl) (r_ar ((zn2 (by decide)).trans (congrArg some e1))),
  e_bin (za rfl) zd (za rfl) (r_cmp (congrArg some e2)),
  e_fbv h3,
  ze (zpB v_.2.1 v4 e4 s5),
  trivial⟩ mixed (by kernel_rfl))
theorem zu9 {w0:World} (v_:Val) (v1:Int) (v2:Bool) (v4:Bool) (v6:(List UInt8)) (v7:(List UInt8)) (e1:((v_.1:Int).tmod (6:Int))=v1) (e2:((v1 == (0:Int)))=v2) (e4:((v1 == (1:Int)))=v4) (e6:(txV v_)=v6) (e7:(encT v6)=v7) (h3:v2=false) (h5:v4=true) (s8:TxW v6):Fun (KN w0) Tryz.prog 15 [.o (.g [pV (.int .u8 v_.1),pI v_.2.1,pS v_.2.2.1,pLs cI v_.2.2.2.1,pI v_.2.2.2.2.1.1,pI v_.2.2.2.2.1.2.1,pI v_.2.2.2.2.1.2.2,pLs cPl v_.2.2.2.2.2.1,pLs cI v_.2.2.2.2.2.2])] (.o (.c (pS v7))):=
 zi (zl (F:=FL [pV (.int .u8 v_.1),pI v_.2.1,pS v_.2.2.1,pLs cI v_.2.2.2.1,pI v_.2.2.2.2.1.1,pI v_.2.2.2.2.1.2.1,pI v_.2.2.2.2.1.2.2,pLs cPl v_.2.2.2.2.2.1,pLs cI v_.2.2.2.2.2.2,pV (.int .u8 v1),pB v2,pB v4,pS v6,pS v7] []) (C:=[(1000004,.bin .rem 5 (yh 0) (LF (.k (.int .u8 6))) (yh 9)),
  (1000005,.bin .eql 5 (yh 9) (LF (.k (.int .u8 0))) (yh 10)),
  (10010,.fb 10 false),
  (1000007,.bin .eql 5 (yh 9) (LF (.k (.int .u8 1))) (yh 11)),
  (10011,.fb 11 true),
  (1000010,.call ⟨39,[.o (.g [.h 0,.h 1,.h 2,.h 3,.h 4,.h 5,.h 6,.h 7,.h 8])],[],yh 12,[]⟩),
  (1000011,.call ⟨42,[yh 12],[],yh 13,[]⟩)]) (k:=⟨15,[.o (.g [.h 0,.h 1,.h 2,.h 3,.h 4,.h 5,.h 6,.h 7,.h 8])],[],yh 13,[]⟩) 0 (zf ⟨zb,zb,zb,(zt zo),zb,zb,zb,(zt zx),(zt zo),zb,zb,zb,zb,zb,trivial⟩) ⟨e_bin (za rfl) zd (za rfl) (r_ar ((zn2 (by decide)).trans (congrArg some e1))),
  e_bin (za rfl) zd (za rfl) (r_cmp (congrArg some e2)),
  e_fbv h3,
  e_bin (za rfl) zd (za rfl) (r_cmp (congrArg some e4)),
  e_fbv h5,
  ze (zr4 v_ v6 e6),
  ze (zuB v6 v7 e7 s8),
  trivial⟩ mixed (by kernel_rfl))
theorem zva {w0:World} (v_:Val) (v1:Int) (v2:Bool) (v4:Bool) (v6:Bool) (v8:(List Int)) (v9:(List UInt8)) (e1:((v_.1:Int).tmod (6:Int))=v1) (e2:((v1 == (0:Int)))=v2) (e4:((v1 == (1:Int)))=v4) (e6:((v1 == (2:Int)))=v6) (e8:(inV v_)=v8) (e9:(encL encI v8)=v9) (h3:v2=false) (h5:v4=false) (h7:v6=true) (s10:∀x∈v8,InI x) (s11:v8.length≤1000000):Fun (KN w0) Tryz.prog 15 [.o (.g [pV (.int .u8 v_.1),pI v_.2.1,pS v_.2.2.1,pLs cI v_.2.2.2.1,pI v_.2.2.2.2.1.1,pI v_.2.2.2.2.1.2.1,pI v_.2.2.2.2.1.2.2,pLs cPl v_.2.2.2.2.2.1,pLs cI v_.2.2.2.2.2.2])] (.o (.c (pS v9))):=
 zi (zl (F:=FL [pV (.int .u8 v_.1),pI v_.2.1,pS v_.2.2.1,pLs cI v_.2.2.2.1,pI v_.2.2.2.2.1.1,pI v_.2.2.2.2.1.2.1,pI v_.2.2.2.2.1.2.2,pLs cPl v_.2.2.2.2.2.1,pLs cI v_.2.2.2.2.2.2,pV (.int .u8 v1),pB v2,pB v4,pB v6,pLs cI v8,pS v9] []) (C:=[(1000004,.bin .rem 5 (yh 0) (LF (.k (.int .u8 6))) (yh 9)),
  (1000005,.bin .eql 5 (yh 9) (LF (.k (.int .u8 0))) (yh 10)),
  (10010,.fb 10 false),
  (1000007,.bin .eql 5 (yh 9) (LF (.k (.int .u8 1))) (yh 11)),
  (10011,.fb 11 false),
  (1000009,.bin .eql 5 (yh 9) (LF (.k (.int .u8 2))) (yh 12)),
  (10012,.fb 12 true),
  (1000012,.call ⟨11,[.o (.g [.h 0,.h 1,.h 2,.h 3,.h 4,.h 5,.h 6,.h 7,.h 8])],[],yh 13,[]⟩),
  (1000013,.call ⟨43,[yh 13],[],yh 14,[]⟩)]) (k:=⟨15,[.o (.g [.h 0,.h 1,.h 2,.h 3,.h 4,.h 5,.h 6,.h 7,.h 8])],[],yh 14,[]⟩) 0 (zf ⟨zb,zb,zb,(zt zo),zb,zb,zb,(zt zx),(zt zo),zb,zb,zb,zb,(zt zo),zb,trivial⟩) ⟨e_bin (za rfl) zd (za rfl) (r_ar ((zn2 (by decide)).trans (congrArg some e1))),
  e_bin (za rfl) zd (za rfl) (r_cmp (congrArg some e2)),
  e_fbv h3,
  e_bin (za rfl) zd (za rfl) (r_cmp (congrArg some e4)),
  e_fbv h5,
  e_bin (za rfl) zd (za rfl) (r_cmp (congrArg some e6)),
  e_fbv h7,
  ze (zq0 v_ v8 e8),
  ze (zv2 v8 v9 e9 s10 s11),
  trivial⟩ mixed (by kernel_rfl))
theorem zvb {w0:World} (v_:Val) (v1:Int) (v2:Bool) (v4:Bool) (v6:Bool) (v8:Bool) (v10:(List UInt8)) (e1:((v_.1:Int).tmod (6:Int))=v1) (e2:((v1 == (0:Int)))=v2) (e4:((v1 == (1:Int)))=v4) (e6:((v1 == (2:Int)))=v6) (e8:((v1 == (3:Int)))=v8) (e10:(encV v_.2.2.2.2.1)=v10) (h3:v2=false) (h5:v4=false) (h7:v6=false) (h9:v8=true) (s11:InV v_.2.2.2.2.1):Fun (KN w0) Tryz.prog 15 [.o (.g [pV (.int .u8 v_.1),pI v_.2.1,pS v_.2.2.1,pLs cI v_.2.2.2.1,pI v_.2.2.2.2.1.1,pI v_.2.2.2.2.1.2.1,pI v_.2.2.2.2.1.2.2,pLs cPl v_.2.2.2.2.2.1,pLs cI v_.2.2.2.2.2.2])] (.o (.c (pS v10))):=
 zi (zl (F:=FL [pV (.int .u8 v_.1),pI v_.2.1,pS v_.2.2.1,pLs cI v_.2.2.2.1,pI v_.2.2.2.2.1.1,pI v_.2.2.2.2.1.2.1,pI v_.2.2.2.2.1.2.2,pLs cPl v_.2.2.2.2.2.1,pLs cI v_.2.2.2.2.2.2,pV (.int .u8 v1),pB v2,pB v4,pB v6,pB v8,pS v10] []) (C:=[(1000004,.bin .rem 5 (yh 0) (LF (.k (.int .u8 6))) (yh 9)),
  (1000005,.bin .eql 5 (yh 9) (LF (.k (.int .u8 0))) (yh 10)),
  (10010,.fb 10 false),
  (1000007,.bin .eql 5 (yh 9) (LF (.k (.int .u8 1))) (yh 11)),
  (10011,.fb 11 false),
  (1000009,.bin .eql 5 (yh 9) (LF (.k (.int .u8 2))) (yh 12)),
  (10012,.fb 12 false),
  (1000011,.bin .eql 5 (yh 9) (LF (.k (.int .u8 3))) (yh 13)),
  (10013,.fb 13 true),
  (1000015,.call ⟨44,[.o (.g [.h 4,.h 5,.h 6])],[],yh 14,[]⟩)]) (k:=⟨15,[.o (.g [.h 0,.h 1,.h 2,.h 3,.h 4,.h 5,.h 6,.h 7,.h 8])],[],yh 14,[]⟩) 0 (zf ⟨zb,zb,zb,(zt zo),zb,zb,zb,(zt zx),(zt zo),zb,zb,zb,zb,zb,zb,trivial⟩) ⟨e_bin (za rfl) zd (za rfl) (r_ar ((zn2 (by decide)).trans (congrArg some e1))),
  e_bin (za rfl) zd (za rfl) (r_cmp (congrArg some e2)),
  e_fbv h3,
  e_bin (za rfl) zd (za rfl) (r_cmp (congrArg some e4)),
  e_fbv h5,
  e_bin (za rfl) zd (za rfl) (r_cmp (congrArg some e6)),
  e_fbv h7,
  e_bin (za rfl) zd (za rfl) (r_cmp (congrArg some e8)),
  e_fbv h9,
  ze (zvl v_.2.2.2.2.1 v10 e10 s11),
  trivial⟩ mixed (by kernel_rfl))
theorem zvc {w0:World} (v_:Val) (v1:Int) (v2:Bool) (v4:Bool) (v6:Bool) (v8:Bool) (v10:Bool) (v12:(List Pl)) (v13:(List UInt8)) (e1:((v_.1:Int).tmod (6:Int))=v1) (e2:((v1 == (0:Int)))=v2) (e4:((v1 == (1:Int)))=v4) (e6:((v1 == (2:Int)))=v6) (e8:((v1 == (3:Int)))=v8) (e10:((v1 == (4:Int)))=v10) (e12:(clV v_)=v12) (e13:(encL encP v12)=v13) (h3:v2=false) (h5:v4=false) (h7:v6=false) (h9:v8=false) (h11:v10=true) (s14:∀x∈v12,InP x) (s15:v12.length≤1000000):Fun (KN w0) Tryz.prog 15 [.o (.g [pV (.int .u8 v_.1),pI v_.2.1,pS v_.2.2.1,pLs cI v_.2.2.2.1,pI v_.2.2.2.2.1.1,pI v_.2.2.2.2.1.2.1,pI v_.2.2.2.2.1.2.2,pLs cPl v_.2.2.2.2.2.1,pLs cI v_.2.2.2.2.2.2])] (.o (.c (pS v13))):=
 zi (zl (F:=FL [pV (.int .u8 v_.1),pI v_.2.1,pS v_.2.2.1,pLs cI v_.2.2.2.1,pI v_.2.2.2.2.1.1,pI v_.2.2.2.2.1.2.1,pI v_.2.2.2.2.1.2.2,pLs cPl v_.2.2.2.2.2.1,pLs cI v_.2.2.2.2.2.2,pV (.int .u8 v1),pB v2,pB v4,pB v6,pB v8,pB v10,pLs cPl v12,pS v13] []) (C:=[(1000004,.bin .rem 5 (yh 0) (LF (.k (.int .u8 6))) (yh 9)),
  (1000005,.bin .eql 5 (yh 9) (LF (.k (.int .u8 0))) (yh 10)),
  (10010,.fb 10 false),
  (1000007,.bin .eql 5 (yh 9) (LF (.k (.int .u8 1))) (yh 11)),
  (10011,.fb 11 false),
  (1000009,.bin .eql 5 (yh 9) (LF (.k (.int .u8 2))) (yh 12)),
  (10012,.fb 12 false),
  (1000011,.bin .eql 5 (yh 9) (LF (.k (.int .u8 3))) (yh 13)),
  (10013,.fb 13 false),
  (1000013,.bin .eql 5 (yh 9) (LF (.k (.int .u8 4))) (yh 14)),
  (10014,.fb 14 true),
  (1000016,.call ⟨40,[.o (.g [.h 0,.h 1,.h 2,.h 3,.h 4,.h 5,.h 6,.h 7,.h 8])],[],yh 15,[]⟩),
  (1000017,.call ⟨45,[yh 15],[],yh 16,[]⟩)]) (k:=⟨15,[.o (.g [.h 0,.h 1,.h 2,.h 3,.h 4,.h 5,.h 6,.h 7,.h 8])],[],yh 16,[]⟩) 0 (zf ⟨zb,zb,zb,(zt zo),zb,zb,zb,(zt zx),(zt zo),zb,zb,zb,zb,zb,zb,(zt zx),zb,trivial⟩) ⟨e_bin (za rfl) zd (za rfl) (r_ar ((zn2 (by decide)).trans (congrArg some e1))),
  e_bin (za rfl) zd (za rfl) (r_cmp (congrArg some e2)),
  e_fbv h3,
  e_bin (za rfl) zd (za rfl) (r_cmp (congrArg some e4)),
  e_fbv h5,
  e_bin (za rfl) zd (za rfl) (r_cmp (congrArg some e6)),
  e_fbv h7,
  e_bin (za rfl) zd (za rfl) (r_cmp (congrArg some e8)),
  e_fbv h9,
  e_bin (za rfl) zd (za rfl) (r_cmp (congrArg some e10)),
  e_fbv h11,
  ze (zr3 v_ v12 e12),
  ze (zv1 v12 v13 e13 s14 s15),
  trivial⟩ mixed (by kernel_rfl))
theorem zvd {w0:World} (v_:Val) (v1:Int) (v2:Bool) (v4:Bool) (v6:Bool) (v8:Bool) (v10:Bool) (v12:RR) (v13:(List UInt8)) (e1:((v_.1:Int).tmod (6:Int))=v1) (e2:((v1 == (0:Int)))=v2) (e4:((v1 == (1:Int)))=v4) (e6:((v1 == (2:Int)))=v6) (e8:((v1 == (3:Int)))=v8) (e10:((v1 == (4:Int)))=v10) (e12:(raV v_)=v12) (e13:(encRS v12)=v13) (h3:v2=false) (h5:v4=false) (h7:v6=false) (h9:v8=false) (h11:v10=false) (s14:TxW (textR v12)):Fun (KN w0) Tryz.prog 15 [.o (.g [pV (.int .u8 v_.1),pI v_.2.1,pS v_.2.2.1,pLs cI v_.2.2.2.1,pI v_.2.2.2.2.1.1,pI v_.2.2.2.2.1.2.1,pI v_.2.2.2.2.1.2.2,pLs cPl v_.2.2.2.2.2.1,pLs cI v_.2.2.2.2.2.2])] (.o (.c (pS v13))):=
 zi (zl (F:=FL [pV (.int .u8 v_.1),pI v_.2.1,pS v_.2.2.1,pLs cI v_.2.2.2.1,pI v_.2.2.2.2.1.1,pI v_.2.2.2.2.1.2.1,pI v_.2.2.2.2.1.2.2,pLs cPl v_.2.2.2.2.2.1,pLs cI v_.2.2.2.2.2.2,pV (.int .u8 v1),pB v2,pB v4,pB v6,pB v8,pB v10,pB v12.1.1,pD v12.1.2,pB v12.2.1,pD v12.2.2,pS v13] []) (C:=[(1000004,.bin .rem 5 (yh 0) (LF (.k (.int .u8 6))) (yh 9)),
  (1000005,.bin .eql 5 (yh 9) (LF (.k (.int .u8 0))) (yh 10)),
  (10010,.fb 10 false),
  (1000007,.bin .eql 5 (yh 9) (LF (.k (.int .u8 1))) (yh 11)),
  (10011,.fb 11 false),
  (1000009,.bin .eql 5 (yh 9) (LF (.k (.int .u8 2))) (yh 12)),
  (10012,.fb 12 false),
  (1000011,.bin .eql 5 (yh 9) (LF (.k (.int .u8 3))) (yh 13)),
  (10013,.fb 13 false),
  (1000013,.bin .eql 5 (yh 9) (LF (.k (.int .u8 4))) (yh 14)),
  (10014,.fb 14 false),
  (1000016,.call ⟨41,[.o (.g [.h 0,.h 1,.h 2,.h 3,.h 4,.h 5,.h 6,.h 7,.h 8])],[],.o (.g [.h 15,.h 16,.h 17,.h 18]),[]⟩),
  (1000017,.call ⟨17,[.o (.g [.h 15,.h 16,.h 17,.h 18])],[],yh 19,[]⟩)]) (k:=⟨15,[.o (.g [.h 0,.h 1,.h 2,.h 3,.h 4,.h 5,.h 6,.h 7,.h 8])],[],yh 19,[]⟩) 0 (zf ⟨zb,zb,zb,(zt zo),zb,zb,zb,(zt zx),(zt zo),zb,zb,zb,zb,zb,zb,zb,zj,zb,zj,zb,trivial⟩) ⟨e_bin (za rfl) zd (za rfl) (r_ar ((zn2 (by decide)).trans (congrArg some e1))),
  e_bin (za rfl) zd (za rfl) (r_cmp (congrArg some e2)),
  e_fbv h3,
  e_bin (za rfl) zd (za rfl) (r_cmp (congrArg some e4)),
  e_fbv h5,
  e_bin (za rfl) zd (za rfl) (r_cmp (congrArg some e6)),
  e_fbv h7,
  e_bin (za rfl) zd (za rfl) (r_cmp (congrArg some e8)),
  e_fbv h9,
  e_bin (za rfl) zd (za rfl) (r_cmp (congrArg some e10)),
  e_fbv h11,
  ze (zqz v_ v12 e12),
  ze (zsS v12 v13 e13 s14),
  trivial⟩ mixed (by kernel_rfl))
theorem v_own {w0:World} (v_:Val) (r:List UInt8) (hr:byV (v_.1.tmod 6) v_=r) (hv:OkV v_):Fun (KN w0) Tryz.prog 15 [.o (.g [pV (.int .u8 v_.1),pI v_.2.1,pS v_.2.2.1,pLs cI v_.2.2.2.1,pI v_.2.2.2.2.1.1,pI v_.2.2.2.2.1.2.1,pI v_.2.2.2.2.1.2.2,pLs cPl v_.2.2.2.2.2.1,pLs cI v_.2.2.2.2.2.2])] (.o (.c (pS r))):=by
 obtain ⟨v1,e1⟩:=yx ((v_.1:Int).tmod (6:Int))
 obtain ⟨v2,e2⟩:=yx ((v1 == (0:Int)))
 cases h3:v2 with
 | true =>
  obtain ⟨v4,e4⟩:=yx (encI v_.2.1)
  have s5:InI v_.2.1:=by exact hv.n
  refine Fun.imp (zu8 v_ v1 v2 v4 e1 e2 e4 h3 s5) (fun _ _ _ h=>h) (fun v W D h=>?_)
  have r0:r=v4:=by
   have q0:=eq_of_beq (e2.trans h3)
   rw [← hr];unfold byV;rw [e1];rw [if_pos q0];rw [e4]
  rw [r0];exact h
 | false =>
  obtain ⟨v4,e4⟩:=yx ((v1 == (1:Int)))
  cases h5:v4 with
  | true =>
   obtain ⟨v6,e6⟩:=yx (txV v_)
   obtain ⟨v7,e7⟩:=yx (encT v6)
   have s8:TxW v6:=by (subst_vars;exact zuf _)
   refine Fun.imp (zu9 v_ v1 v2 v4 v6 v7 e1 e2 e4 e6 e7 h3 h5 s8) (fun _ _ _ h=>h) (fun v W D h=>?_)
   have r0:r=v7:=by
    have q0:=ne_of_beq_false (e2.trans h3)
    have q1:=eq_of_beq (e4.trans h5)
    rw [← hr];unfold byV;rw [e1];rw [if_neg q0,if_pos q1];rw [e6,e7]
   rw [r0];exact h
  | false =>
   obtain ⟨v6,e6⟩:=yx ((v1 == (2:Int)))
   cases h7:v6 with
   | true =>
    obtain ⟨v8,e8⟩:=yx (inV v_)
    obtain ⟨v9,e9⟩:=yx (encL encI v8)
    have s10:∀x∈v8,InI x:=by (subst_vars;exact (zpu hv).1)
    have s11:v8.length≤1000000:=by (subst_vars;first | exact Nat.le_trans (zpu hv).2 (by decide) | exact Nat.le_trans (zpE hv).2 (by decide))
    refine Fun.imp (zva v_ v1 v2 v4 v6 v8 v9 e1 e2 e4 e6 e8 e9 h3 h5 h7 s10 s11) (fun _ _ _ h=>h) (fun v W D h=>?_)
    have r0:r=v9:=by
     have q0:=ne_of_beq_false (e2.trans h3)
     have q1:=ne_of_beq_false (e4.trans h5)
     have q2:=eq_of_beq (e6.trans h7)
     rw [← hr];unfold byV;rw [e1];rw [if_neg q0,if_neg q1,if_pos q2];rw [e8,e9]
    rw [r0];exact h
   | false =>
    obtain ⟨v8,e8⟩:=yx ((v1 == (3:Int)))
    cases h9:v8 with
    | true =>
     obtain ⟨v10,e10⟩:=yx (encV v_.2.2.2.2.1)
     have s11:InV v_.2.2.2.2.1:=by exact hv.v
     refine Fun.imp (zvb v_ v1 v2 v4 v6 v8 v10 e1 e2 e4 e6 e8 e10 h3 h5 h7 h9 s11) (fun _ _ _ h=>h) (fun v W D h=>?_)
     have r0:r=v10:=by
      have q0:=ne_of_beq_false (e2.trans h3)
      have q1:=ne_of_beq_false (e4.trans h5)
      have q2:=ne_of_beq_false (e6.trans h7)
      have q3:=eq_of_beq (e8.trans h9)
      rw [← hr];unfold byV;rw [e1];rw [if_neg q0,if_neg q1,if_neg q2,if_pos q3];rw [e10]
     rw [r0];exact h
    | false =>
     obtain ⟨v10,e10⟩:=yx ((v1 == (4:Int)))
     cases h11:v10 with
     | true =>
      obtain ⟨v12,e12⟩:=yx (clV v_)
      obtain ⟨v13,e13⟩:=yx (encL encP v12)
      have s14:∀x∈v12,InP x:=by (subst_vars;exact (zpE hv).1)
      have s15:v12.length≤1000000:=by (subst_vars;first | exact Nat.le_trans (zpu hv).2 (by decide) | exact Nat.le_trans (zpE hv).2 (by decide))
      refine Fun.imp (zvc v_ v1 v2 v4 v6 v8 v10 v12 v13 e1 e2 e4 e6 e8 e10 e12 e13 h3 h5 h7 h9 h11 s14 s15) (fun _ _ _ h=>h) (fun v W D h=>?_)
      have r0:r=v13:=by
       have q0:=ne_of_beq_false (e2.trans h3)
       have q1:=ne_of_beq_false (e4.trans h5)
       have q2:=ne_of_beq_false (e6.trans h7)
       have q3:=ne_of_beq_false (e8.trans h9)
       have q4:=eq_of_beq (e10.trans h11)
       rw [← hr];unfold byV;rw [e1];rw [if_neg q0,if_neg q1,if_neg q2,if_neg q3,if_pos q4];rw [e12,e13]
      rw [r0];exact h
     | false =>
      obtain ⟨v12,e12⟩:=yx (raV v_)
      obtain ⟨v13,e13⟩:=yx (encRS v12)
      have s14:TxW (textR v12):=by (subst_vars;exact zvj _)
      refine Fun.imp (zvd v_ v1 v2 v4 v6 v8 v10 v12 v13 e1 e2 e4 e6 e8 e10 e12 e13 h3 h5 h7 h9 h11 s14) (fun _ _ _ h=>h) (fun v W D h=>?_)
      have r0:r=v13:=by
       have q0:=ne_of_beq_false (e2.trans h3)
       have q1:=ne_of_beq_false (e4.trans h5)
       have q2:=ne_of_beq_false (e6.trans h7)
       have q3:=ne_of_beq_false (e8.trans h9)
       have q4:=ne_of_beq_false (e10.trans h11)
       rw [← hr];unfold byV;rw [e1];rw [if_neg q0,if_neg q1,if_neg q2,if_neg q3,if_neg q4];rw [e12,e13]
      rw [r0];exact h
end Go.Proofs.YtjcegdldgjphiaaGreatDoor
namespace Go.Proofs.YtjcegdldgjphiaaGreatDoor
open Go.ChangeShapes Go.WideShapes Go.ChangeAt Go.RowKit Go.Joins Go.Deep
section
variable {H:Type} {enc:TypeId×Value→H} {w:World} {base:Nat} {v:Value} {d:DataW H} {p:List MemPlace}
def Opens (enc:TypeId×Value→H) (w:World) (e:TypeId) {α:Type} (c:α→List Pred) (ok:α→Prop):Prop:=
 ∀(fuel:Nat) (cs:List Value) (y:DataW H×List MemPlace),DataW.trod enc Tryz.prog w 0 (fun _=>true) true fuel e cs=some y→∃x:α,ok x∧okl (c x) cs w (old w)
theorem zqt {t:TypeId} {k:IntKind} (ht:Tryz.prog.underlying t=some (.int k)):Opens enc w t (fun n:Int=>[pV (.int k n)]) (fun n=>(Lit.int k n).wf=true):=by
 intro fuel cs y h
 obtain ⟨n,rfl,_,hw⟩:=DataW.trod_int ht h
 exact ⟨n,hw,rfl,trivial⟩
theorem zwt {t:TypeId} (ht:Tryz.prog.underlying t=some .string):Opens enc w t (fun s:List UInt8=>[pS s]) (fun s=>s.length≤maxLen):=by
 intro fuel cs y h
 obtain ⟨s,rfl,_,hw⟩:=DataW.trod_string ht h
 exact ⟨s.data.toList,hw,rfl,trivial⟩
theorem zlk {W:World} {D:Dat} {ps qs:List Pred} {vs:List Value} {k:Nat} (h:okp ps vs W D) (hk:ps.length=k) (h2:okl qs ((vs.drop k).take qs.length) W D):okp (ps++qs) vs W D:=by
 subst hk
 unfold okp at h ⊢
 rw [List.length_append,List.take_add]
 exact zaT h h2
theorem zlj {W:World} {D:Dat} {ps:List Pred} {vs us:List Value} (h:okl ps us W D) (he:∀i,i<ps.length→vs[i]?=us[i]?):okl ps (vs.take ps.length) W D:=by
 have hl:=ql h
 have e:vs.take ps.length=us:=by
  apply List.ext_getElem?
  intro i
  rw [List.getElem?_take]
  split
  ·exact he i ‹_›
  ·rw [List.getElem?_eq_none (by omega)]
 rw [e];exact h
theorem zln {t e:TypeId} {α:Type} {c:α→List Pred} {ok:α→Prop} {z:Nat} (ht:Tryz.prog.underlying t=some (.slice e)) (hc:Tryz.prog.cellsOf e=z) (h0:0<z) (hz:∀x,(c x).length=z) (he:Opens enc w e c ok) :
  Opens enc w t (fun l:List α=>[pLs c l]) (fun l=>(∀x∈l,ok x)∧l.length≤maxLen):=by
 intro fuel cs y h
 rcases DataW.trod_slice ht h with ⟨rfl,_⟩ | ⟨a,len,cap,elems,rest,n,_,rfl,_,_,hl,hm,hlen,hel,_,_⟩
 ·exact ⟨[],⟨fun x hx=>(by cases hx),Nat.zero_le _⟩,.inl ⟨⟨_,_,rfl⟩,rfl,rfl⟩,trivial⟩
 rw [hc] at hel
 have each:∀i,i<len→∃(x:α) (us:List Value),ok x∧okl (c x) us w (old w)∧∀j,j<z→w.cell? ((a.add (i*z)).add j)=us[j]?:=by
  intro i hi
  have h1:=hel i hi
  rw [List.getElem?_eq_getElem (by omega),Option.bind_eq_some_iff] at h1
  obtain ⟨us,hus,h2⟩:=h1
  obtain ⟨x,hx,hok⟩:=he n us _ h2
  obtain ⟨_,hul,hcell⟩:=World.cells?_some hus
  exact ⟨x,us,hx,hok,fun j hj=>hcell j hj⟩
 rcases Nat.eq_zero_or_pos len with h00 | h00
 ·subst h00
  exact ⟨[],⟨fun x hx=>(by cases hx),Nat.zero_le _⟩,.inl ⟨⟨_,_,rfl⟩,rfl,rfl⟩,trivial⟩
 obtain ⟨q,o,sp⟩:=a
 obtain ⟨x0,us0,_,ho0,hc0⟩:=each 0 h00
 have hl0:=ql ho0
 rw [hz] at hl0
 have h1:w.cell? ⟨q,o,sp⟩=some us0[0]:=by
  have:=hc0 0 h0
  rw [List.getElem?_eq_getElem (by omega)] at this
  simpa [Addr.add] using this
 have hsp:sp=none:=by
  cases sp with
  | none=>rfl
  | some x =>
   unfold World.cell? at h1
   dsimp only at h1
   split at h1<;>simp at h1
 subst hsp
 have hblk:∃vs T fz,w.heap[q]?=some (.cells vs T fz):=by
  unfold World.cell? at h1
  dsimp only at h1
  split at h1
  ·rename_i cs T fz hh
   exact ⟨cs,T,fz,hh⟩
  ·cases h1
 obtain ⟨vs,T,fz,hh⟩:=hblk
 have hq:q<w.heap.size:=(Array.getElem?_eq_some_iff.1 hh).1
 have hcell:∀i j,(⟨q,o,none⟩:Addr).add i=⟨q,o+i,none⟩∧w.cell? (((⟨q,o,none⟩:Addr).add i).add j)=vs.toList[o+i+j]?:=by
  intro i j
  rw [show (⟨q,o,none⟩:Addr).add i=⟨q,o+i,none⟩ from zat ..,show (⟨q,o+i,none⟩:Addr).add j=⟨q,o+i+j,none⟩ from zat ..,zaj hh]
  exact ⟨rfl,by rw [Array.getElem?_toList]⟩
 have build:∀m,m≤len→∃l:List α,l.length=m∧(∀x∈l,ok x)∧okp (l.flatMap c) (vs.toList.drop o) w (old w):=by
  intro m
  induction m with
  | zero=>intro _;exact ⟨[],rfl,fun x hx=>(by cases hx),trivial⟩
  | succ m ih =>
   intro hm1
   obtain ⟨l,h2,h3,h4⟩:=ih (by omega)
   obtain ⟨x,us,hx,hok,hcl⟩:=each m (by omega)
   refine ⟨l++[x],by rw [List.length_append,h2];rfl,fun y hy=>?_,?_⟩
   ·rcases List.mem_append.1 hy with hy | hy
    ·exact h3 y hy
    ·rw [List.mem_singleton.1 hy];exact hx
   ·rw [List.flatMap_append,List.flatMap_cons,List.flatMap_nil,List.append_nil]
    refine zlk (k:=m*z) h4 (by rw [zbh hz,h2]) (zlj hok fun i hi=>?_)
    rw [hz] at hi
    rw [List.drop_drop,List.getElem?_drop,← hcl i hi,(hcell (m*z) i).2]
 obtain ⟨l,h2,h3,h4⟩:=build len (Nat.le_refl _)
 refine ⟨l,⟨h3,by omega⟩,.inr ⟨q,o,cap,T,vs,fz,by rw [h2],hq,hh,h4,by omega⟩,trivial⟩
theorem zo6 {W:World} {D:Dat} {ps qs:List Pred} {cs:List Value} {o z:Nat} (h:okl ps (cs.take o) W D) (h2:okl qs ((cs.drop o).take z) W D):okl (ps++qs) (cs.take (o+z)) W D:=by
 rw [List.take_add];exact zaT h h2
theorem zo7 {e:TypeId} {α:Type} {c:α→List Pred} {ok:α→Prop} {n o z i:Nat} {cs:List Value} {xs:List (DataW H×List MemPlace)} (he:Opens enc w e c ok) (hz:Tryz.prog.cellsOf e=z) (h:DataW.trod enc Tryz.prog w 0 (fun _=>true) true n e ((cs.drop o).take (Tryz.prog.cellsOf e))=xs[i]?) (hi:i<xs.length) :
  ∃x,ok x∧okl (c x) ((cs.drop o).take z) w (old w):=by
 rw [List.getElem?_eq_getElem hi,hz] at h
 exact he _ _ _ h
theorem zsh:Tryz.prog.cellsOf 24=3:=by kernel_rfl
theorem zsA:Tryz.prog.cellsOf 69=4:=by kernel_rfl
theorem zrR:Tryz.prog.cellsOf 27=9:=by kernel_rfl
theorem zkV:Tryz.prog.cellsOf 5=1:=by kernel_rfl
theorem zvx:Tryz.prog.cellsOf 9=1:=by kernel_rfl
theorem zvu:Tryz.prog.cellsOf 25=1:=by kernel_rfl
theorem zqT {n:Int} (h:(Lit.int .i64 n).wf=true):InI n:=by
 have:=bounds_i64 h
 exact ⟨this.1,by omega⟩
theorem zvi:Opens enc w 24 (fun v:V3=>[pI v.1,pI v.2.1,pI v.2.2]) InV:=by
 intro fuel cs y h
 obtain ⟨xs,n,_,_,hl,hlen,hf⟩:=DataW.trod_struct Tryz.underlying24 h
 rw [zsh] at hl
 have hlen3:xs.length=3:=hlen
 obtain ⟨a,ha,oa⟩:=zo7 (z:=1) (zqt Tryz.underlying3) zpY (hf 0 _ rfl) (by omega)
 obtain ⟨b,hb,ob⟩:=zo7 (z:=1) (zqt Tryz.underlying3) zpY (hf 1 _ rfl) (by omega)
 obtain ⟨c,hc,oc⟩:=zo7 (z:=1) (zqt Tryz.underlying3) zpY (hf 2 _ rfl) (by omega)
 refine ⟨(a,b,c),⟨zqT ha,zqT hb,zqT hc⟩,?_⟩
 have:=zo6 (zo6 (zo6 (ps:=[]) (o:=0) trivial oa) ob) oc
 rw [List.take_of_length_le (by omega)] at this
 exact this
theorem op_pl:Opens enc w 69 cPl InP:=by
 intro fuel cs y h
 obtain ⟨xs,n,_,_,hl,hlen,hf⟩:=DataW.trod_struct Tryz.underlying69 h
 rw [zsA] at hl
 have hlen2:xs.length=2:=hlen
 obtain ⟨a,ha,oa⟩:=zo7 (z:=3) zvi zsh (hf 0 _ rfl) (by omega)
 obtain ⟨b,hb,ob⟩:=zo7 (z:=1) (zqt Tryz.underlying3) zpY (hf 1 _ rfl) (by omega)
 refine ⟨(a,b),⟨ha,zqT hb⟩,?_⟩
 have:=zo6 (zo6 (ps:=[]) (o:=0) trivial oa) ob
 rw [List.take_of_length_le (by omega)] at this
 exact this
theorem zt4:Opens enc w 22 (fun l:List Int=>[pLs cI l]) (fun l=>(∀x∈l,InI x)∧l.length≤maxLen):=by
 intro fuel cs y h
 obtain ⟨l,⟨h1,h2⟩,h3⟩:=zln (c:=cI) Tryz.underlying22 zpY (by decide) (fun _=>rfl) (zqt Tryz.underlying3) fuel cs y h
 exact ⟨l,⟨fun x hx=>zqT (h1 x hx),h2⟩,h3⟩
theorem zvO:Opens enc w 25 (fun l:List Pl=>[pLs cPl l]) (fun l=>(∀x∈l,InP x)∧l.length≤maxLen):=zln Tryz.underlying25 zsA (by decide) (fun _=>rfl) op_pl
theorem zsO:Opens enc w 27 cVal OkV:=by
 intro fuel cs y h
 obtain ⟨xs,n,_,_,hl,hlen,hf⟩:=DataW.trod_struct Tryz.underlying27 h
 rw [zrR] at hl
 have hlen7:xs.length=7:=hlen
 obtain ⟨k,hk,ok⟩:=zo7 (z:=1) (zqt Tryz.underlying5) zkV (hf 0 _ rfl) (by omega)
 obtain ⟨a,ha,oa⟩:=zo7 (z:=1) (zqt Tryz.underlying3) zpY (hf 1 _ rfl) (by omega)
 obtain ⟨s,hs,os⟩:=zo7 (z:=1) (zwt Tryz.underlying9) zvx (hf 2 _ rfl) (by omega)
 obtain ⟨l,hL,ol⟩:=zo7 (z:=1) zt4 zsz (hf 3 _ rfl) (by omega)
 obtain ⟨v,hv,ov⟩:=zo7 (z:=3) zvi zsh (hf 4 _ rfl) (by omega)
 obtain ⟨c,hc,oc⟩:=zo7 (z:=1) zvO zvu (hf 5 _ rfl) (by omega)
 obtain ⟨b,hb,ob⟩:=zo7 (z:=1) zt4 zsz (hf 6 _ rfl) (by omega)
 have hk8:=bounds_u8 hk
 refine ⟨(k,a,s,l,v,c,b),⟨⟨hk8.1,by omega⟩,zqT ha,hL.1,hv,hc.1⟩,?_⟩
 have:=zo6 (zo6 (zo6 (zo6 (zo6 (zo6 (zo6 (ps:=[]) (o:=0) trivial ok) oa) os) ol) ov) oc) ob
 rw [List.take_of_length_le (by omega)] at this
 exact this
theorem zrj {t:TypeId} {α:Type} {c:α→List Pred} {ok:α→Prop} {cs:Array Value} (h:Opens enc w t c ok) (hd:DataW.Trod enc Tryz.prog w 0 (fun _=>true) true t (.agg cs) d p):∃x,ok x∧(PSh.o (.g (c x))).ok (.agg cs) w (old w):=by
 obtain ⟨fuel,hf⟩:=hd
 obtain ⟨x,hx,ho⟩:=h _ _ _ hf
 exact ⟨x,hx,_,rfl,ho⟩
end
end Go.Proofs.YtjcegdldgjphiaaGreatDoor
namespace Go.Proofs.YtjcegdldgjphiaaGreatDoor
open Go.RowKit Go.Shelf
theorem ztw {w0:World} (a:Raw) (v1:Int) (v2:Int) (n3:Nat) (v5:(List Nat)) (e1:((a.2.length:Int))=v1) (e2:((if (68:Int)<v1 then (68:Int) else v1))=v2) (e5:(a.2.take n3)=v5) (s4:v2=(n3:Int)) (s6:n3≤a.2.length):Fun (KN w0) Tryz.prog 10 [.o (.g [pB a.1,pD a.2])] (.o (.g [pB a.1,pD v5])):=
 zi (zl (F:=FL [pB a.1,pD a.2,pI v1,pI v2,pD v5] []) (C:=[(1000008,.op (.len [28] 3) [yh 1] [] (yh 2)),
  (1000009,.op (.min [3,3] 3) [yh 2,LF (.k (.int .i64 68))] [] (yh 3)),
  (1000010,.op (.sc 28 false true false) [yh 1,yh 3] [] (yh 4))]) (k:=⟨10,[.o (.g [.h 0,.h 1])],[],.o (.g [.h 0,.h 4]),[]⟩) 0 (zf ⟨zb,zj,zb,zb,zj,trivial⟩) ⟨zaW (E:=123) (by kernel_rfl) (zc rfl) (za (by rw [← e1];rfl)),
  e_op2 (za rfl) zd (za rfl) (fun W=>by rw [← e2];exact zmz W),
  e_slD (E:=123) (by kernel_rfl) (by kernel_rfl) (zc rfl) (za rfl) s4 s6 (zc (by rw [e5];rfl)),
  trivial⟩ mixed (by kernel_rfl))
theorem zuu {w0:World} (a r:Raw) (hr:(a.1,a.2.take 68)=r):Fun (KN w0) Tryz.prog 10 [.o (.g [pB a.1,pD a.2])] (.o (.g [pB r.1,pD r.2])):=by
 obtain ⟨v1,e1⟩:=yx ((a.2.length:Int))
 obtain ⟨v2,e2⟩:=yx ((if (68:Int)<v1 then (68:Int) else v1))
 obtain ⟨n3,s4⟩:∃(n3:Nat),v2=(n3:Int):=by (refine ⟨v2.toNat,?_⟩;have t:=e2;split at t<;>omega)
 obtain ⟨v5,e5⟩:=yx (a.2.take n3)
 have s6:n3≤a.2.length:=by (exact (zpA (k:=68) e1 (e2.trans s4)).2)
 refine Fun.imp (ztw a v1 v2 n3 v5 e1 e2 e5 s4 s6) (fun _ _ _ h=>h) (fun v W D h=>?_)
 have r0:r=(a.1,v5):=by
  rw [← hr,← e5,(zpA (k:=68) e1 (e2.trans s4)).1]
 rw [r0];exact h
end Go.Proofs.YtjcegdldgjphiaaGreatDoor
namespace Go.Proofs.YtjcegdldgjphiaaGreatDoor
end Go.Proofs.YtjcegdldgjphiaaGreatDoor
