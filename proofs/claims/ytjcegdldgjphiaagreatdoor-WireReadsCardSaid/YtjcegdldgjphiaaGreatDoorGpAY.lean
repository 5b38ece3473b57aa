/-
  Merged: SymEq, WrO, WrS, WrT, WrU, WrV, WrOp, WrW, WrCut0.
-/
import Derived.Test.YtjcegdldgjphiaaGreatDoorGpAX
import Derived.Test.YtjcegdldgjphiaaGreatDoorGpAD
import Derived.Laws.StructEq
import Derived.Test.YtjcegdldgjphiaaGreatDoorGpAW
import Derived.Test.YtjcegdldgjphiaaGreatDoorGpAT
set_option linter.unusedSimpArgs false
set_option linter.unusedVariables false
set_option maxRecDepth 100000
set_option maxHeartbeats 4000000
namespace Go.Proofs.YtjcegdldgjphiaaGreatDoor
open Go.RowKit
theorem zlW {w:World} {cs:Array Value} {o:Nat} {v:Value} (h:cs[o]?=some v):(part 3 cs o).run Tryz.prog w=.ok v w:=by
 unfold part
 rw [Sem.run_bind,Tryz.isAgg3,Result.andThen_ok]
 simp [h]
theorem zgL {w : World} {d : Nat} {xs ys : Array Value} {f : Field} {fs : List Field} {a b : Int} (hn : f.name ≠ "_") (ht : f.type = 3) (ha : xs[f.offset]? = some (.int .i64 a)) (hb : ys[f.offset]? = some (.int .i64 b)) :
  (Op.eqFields (d+1) xs ys (f::fs)).run Tryz.prog w=if a=b then (Op.eqFields (d+1) xs ys fs).run Tryz.prog w else .ok false w:=by
 rw [Op.eqFields]
 rw [if_pos hn,Sem.run_bind,ht,zlW ha,Result.andThen_ok,Sem.run_bind,zlW hb,Result.andThen_ok,Sem.run_bind,run_equalIn_int (P:=Tryz.prog) w d _ _ .i64 _ _ Tryz.underlying3,Result.andThen_ok]
 by_cases h:a=b
 ·subst h;simp
 ·simp [h]
def vcs (x:Int×Int×Int):List Value:=[.int .i64 x.1,.int .i64 x.2.1,.int .i64 x.2.2]
def pcs (x:(Int×Int×Int)×Int):List Value:=vcs x.1++[.int .i64 x.2]
theorem zsN (d:Nat) (x y:Int×Int×Int) (w:World):(Op.equalIn (d+2) 24 (.agg (vcs x).toArray) (.agg (vcs y).toArray)).run Tryz.prog w=.ok (decide (x=y)) w:=by
 have hf : (Tryz.prog.fieldsOf 24).toList = [⟨"X", 3, 0, false, "", "", 0⟩, ⟨"Y", 3, 1, false, "", "", 8⟩, ⟨"Z", 3, 2, false, "", "", 16⟩] := by kernel_rfl
 rw [run_equalIn_struct w (d+1) _ _ _ (by kernel_rfl) (by kernel_rfl),hf,zgL (a:=x.1) (b:=y.1) (by decide) rfl rfl rfl,zgL (a:=x.2.1) (b:=y.2.1) (by decide) rfl rfl rfl,zgL (a:=x.2.2) (b:=y.2.2) (by decide) rfl rfl rfl]
 obtain ⟨a,b,c⟩:=x
 obtain ⟨a',b',c'⟩:=y
 simp only [Prod.mk.injEq]
 by_cases h1:a=a'<;>by_cases h2:b=b'<;>by_cases h3:c=c'<;>simp [h1,h2,h3,Op.eqFields]
theorem eq_pl (d:Nat) (x y:(Int×Int×Int)×Int) (w:World):(Op.equalIn (d+3) 69 (.agg (pcs x).toArray) (.agg (pcs y).toArray)).run Tryz.prog w=.ok (decide (x=y)) w:=by
 have hf : (Tryz.prog.fieldsOf 69).toList = [⟨"N", 24, 0, false, "", "", 0⟩, ⟨"B", 3, 3, false, "", "", 24⟩] := by kernel_rfl
 have hpart:∀z,(part 24 (pcs z).toArray 0).run Tryz.prog w=.ok (.agg (vcs z.1).toArray) w:=by
  intro z
  unfold part
  rw [Sem.run_bind,Tryz.isAgg24,Result.andThen_ok]
  simp only [if_true]
  rw [Sem.run_bind,Tryz.sizeOf24,Result.andThen_ok]
  rfl
 rw [run_equalIn_struct w (d+2) _ _ _ (by kernel_rfl) (by kernel_rfl),hf]
 rw [Op.eqFields]
 rw [if_pos (by decide),Sem.run_bind]
 simp only
 rw [hpart,Result.andThen_ok,Sem.run_bind,hpart,Result.andThen_ok,Sem.run_bind,zsN,Result.andThen_ok]
 obtain ⟨v,b⟩:=x
 obtain ⟨v',b'⟩:=y
 simp only [Prod.mk.injEq]
 by_cases h:v=v'
 ·subst h
  simp only [decide_true,Bool.not_true,Bool.false_eq_true,if_false]
  rw [zgL (a:=b) (b:=b') (by decide) rfl rfl rfl]
  by_cases h2:b=b'<;>simp [h2,Op.eqFields]
 ·simp [h]
section
variable {K:Kit} {F:Fact}
theorem zsB {W:World} {β:Loc} {ls:List Lf} {us:List Value}:∀{vs:Array Value},(∀v,oks F β ls v W→v=us)→oks F β ls vs.toList W→vs=us.toArray:=by
 intro vs h ho
 exact Array.ext' (by simpa using h _ ho)
theorem e_eqG {T:TypeId} {ls ms:List Lf} {o:Lf} {us ts:List Value} {neg b:Bool} (hg:Tryz.prog.eqGuardType Tryz.prog.depth T=false) (hx:∀β v W,oks F β ls v W→v=us) (hy:∀β v W,oks F β ms v W→v=ts) (he:∀w,(Op.equalIn 10000 T (.agg us.toArray) (.agg ts.toArray)).run Tryz.prog w=.ok b w) (ho:Gives F o (.bool (if neg then !b else b))) :
  Ent.sound K Tryz.prog F (.bin (if neg then .neq else .eql) T (.o (.g ls)) (.o (.g ms)) (LF o)):=by
 intro β W vx vy h1 h2
 obtain ⟨xs,rfl,h1⟩:=h1
 obtain ⟨ys,rfl,h2⟩:=h2
 obtain rfl:=zsB (hx β · W) h1
 obtain rfl:=zsB (hy β · W) h2
 refine ⟨_,fun X Y=>?_,(ho β _ W).2 rfl⟩
 rw [Sem.run_bind,run_eqGuard_agg W _ _ _ _ _ _ hg,Result.andThen_ok]
 cases neg
 ·simp only [Bool.false_eq_true,if_false]
  rw [run_eql_struct,he,Result.andThen_ok]
 ·simp only [if_true]
  rw [run_neq_struct,he,Result.andThen_ok]
def giv (F:Fact):List Lf→List Value→Prop
 | [],[]=>True
 | l::ls,v::vs=>Gives F l v∧giv F ls vs
 | _,_=>False
theorem zeF {β:Loc} {W:World}:∀{ls:List Lf} {us vs:List Value},giv F ls us→oks F β ls vs W→vs=us
 | [],[],[],_,_=>rfl
 | l::ls,u::us,v::vs,h,h2=>by rw [(h.1 β v W).1 h2.1,zeF h.2 h2.2]
 | [],_::_,_,h,_=>h.elim
 | _::_,[],_,h,_=>h.elim
 | [],[],_::_,_,h2=>h2.elim
 | _::_,_::_,[],_,h2=>h2.elim
theorem e_eqV {ls ms:List Lf} {o:Lf} {x y:Int×Int×Int} {neg:Bool} (hx:giv F ls (vcs x)) (hy:giv F ms (vcs y)) (ho:Gives F o (.bool (if neg then !decide (x=y) else decide (x=y)))):Ent.sound K Tryz.prog F (.bin (if neg then .neq else .eql) 24 (.o (.g ls)) (.o (.g ms)) (LF o)):=
 e_eqG (by kernel_rfl) (fun _ _ _ h=>zeF hx h) (fun _ _ _ h=>zeF hy h) (fun w=>zsN 9998 x y w) ho
theorem e_eqP {ls ms:List Lf} {o:Lf} {x y:(Int×Int×Int)×Int} {neg:Bool} (hx:giv F ls (pcs x)) (hy:giv F ms (pcs y)) (ho:Gives F o (.bool (if neg then !decide (x=y) else decide (x=y)))):Ent.sound K Tryz.prog F (.bin (if neg then .neq else .eql) 69 (.o (.g ls)) (.o (.g ms)) (LF o)):=
 e_eqG (by kernel_rfl) (fun _ _ _ h=>zeF hx h) (fun _ _ _ h=>zeF hy h) (fun w=>eq_pl 9997 x y w) ho
end
end Go.Proofs.YtjcegdldgjphiaaGreatDoor
namespace Go.Proofs.YtjcegdldgjphiaaGreatDoor
open Go.RowKit Go.Shelf
theorem zdl {α:Type} {l m:List α} {n:Nat} {x y:α} (h:l.take n=m.take n) (hx:l[n]?=some x) (hy:m[n]?=some y) (he:x=y):l.take (n+1)=m.take (n+1):=by
 rw [List.take_add_one,List.take_add_one,h,hx,hy,he]
structure w_sameints_A_T where
 i:Int
def z8:List Atom:=[.sl 0 (yh 0),.sl 1 (yh 1),.sl 5 (yh 5),.sl 6 (yh 0),.sl 7 (yh 2),.sl 8 (yh 1),.sl 9 (yh 3),.sl 10 (yh 4)]
def qS:LoopS:=⟨4,[.sl 0 (yh 0),.sl 1 (yh 1),.sl 5 (.o (.c (.k (.int .i64 0)))),.sl 6 (yh 0),.sl 7 (yh 2),.sl 8 (yh 1),.sl 9 (yh 3),.sl 10 (yh 4)],(.x 0),[.sl 0 (yh 0),.sl 1 (yh 1),.sl 6 (yh 0),.sl 7 (yh 2),.sl 8 (yh 1),.sl 9 (yh 3),.sl 10 (yh 4)]⟩
abbrev zwB:List (Nat×Ent):=(10004,.fb 4 false)::(1005002,.op (.len [22] 3) [yh 0] [] (yh 6))::(1005003,.bin .lss 3 (yh 5) (yh 6) (yh 7))::[]
abbrev zxl:List (Nat×Ent):=(10007,.fb 7 true)::(1005006,.op (.ia 22) [yh 0,yh 5] [] (yh 8))::(1005007,.op (.ld 3) [yh 8] [] (yh 9))::(1005010,.op (.ia 22) [yh 1,yh 5] [] (yh 10))::(1005011,.op (.ld 3) [yh 10] [] (yh 11))::(1005012,.bin .neq 3 (yh 9) (yh 11) (yh 12))::zwB
abbrev zxm:List (Nat×Ent):=(10012,.fb 12 false)::(1005014,.bin .add 3 (yh 5) (LF (.k (.int .i64 1))) (yh 13))::zxl
abbrev zxn:List (Nat×Ent):=(10007,.fb 7 false)::zwB
theorem zfg {w0:World} (l:(List Int)) (z2:(List Int)) (v1:Int) (v2:Int) (v3:Bool) (h4:v3=false) {F:Fact} (u0:F.c 0=pLs cI l) (u1:F.c 1=pLs cI z2) (u2:F.c 2=pI v1) (u3:F.c 3=pI v2) (u4:F.c 4=pB v3) (R:Frm) (hR:R.pm=⟨ntOf Tryz.prog 37,[],[]⟩) (hlb:l.length<9223372036854775808) (hlm:l.length=z2.length) (hq:l=z2):zj (KN w0) Tryz.prog F R qS (lp Tryz.prog 37 0):=by
 refine zG (T:=w_sameints_A_T) (fun t=>FL [pLs cI l,pLs cI z2,pI v1,pI v2,pB v3,pI t.i] []) (fun ⟨i⟩=>∃n:Nat,i=(n:Int)∧n≤l.length∧l.take n=z2.take n) (fun ⟨i⟩=>((l.length:Int) - i).toNat) { i:=(0:Int) } z8 ⟨0,rfl,Nat.zero_le _,rfl⟩ (LZ ⟨z_c (LU u0),z_c (LU u1),z_c yy,z_c (LU u0),z_c (LU u2),z_c (LU u1),z_c (LU u3),z_c (LU u4),trivial⟩) rfl fun t hJ=>?_
 obtain ⟨i⟩:=t
 dsimp only at hJ
 obtain ⟨n,hi,hn,ht⟩:=hJ
 obtain ⟨v501,e501⟩:=LX ((l.length:Int))
 obtain ⟨v502,e502⟩:=LX (decide (i<v501))
 let A1:List Pred→List Pred:=fun t=>pLs cI l::pLs cI z2::pI v1::pI v2::pB v3::pI i::pI v501::pB v502::t
 have f1:LA (KN w0) A1:=fun t h=>⟨(zi zl),(zi zl),zc,zc,zc,zc,zc,zc,h⟩
 have T1:LT (KN w0) Tryz.prog A1 zwB:=fun t=>⟨e_fbv h4,zH (E:=3) (by kernel_rfl) (zd rfl) (za (by rw [e501];rfl)),e_bin (za rfl) (za rfl) (za rfl) (r_cmp (LO e502)),trivial⟩
 cases h503:v502 with
 | true =>
  obtain ⟨n504,x505,s506,s507⟩:∃(n504:Nat) (x505:Int),i=(n504:Int)∧l[n504]?=some x505:=by (have hz:=e501;have dh503:=LD e502 h503;have hlt:n<l.length:=(by omega);exact ⟨n,_,hi,List.getElem?_eq_getElem (by omega)⟩)
  obtain ⟨n508,x509,s510,s511⟩:∃(n508:Nat) (x509:Int),i=(n508:Int)∧z2[n508]?=some x509:=by (have hz:=e501;have dh503:=LD e502 h503;have hlt:n<l.length:=(by omega);exact ⟨n,_,hi,List.getElem?_eq_getElem (by omega)⟩)
  obtain ⟨v512,e512⟩:=LX ((x505 != x509))
  let A2:=fun t=>A1 (pP (cI x505)::pI x505::pP (cI x509)::pI x509::pB v512::t)
  have f2:LA (KN w0) A2:=fun t h=>f1 _ ⟨(qw (zl _)),zc,(qw (zl _)),zc,zc,h⟩
  have T2:LT (KN w0) Tryz.prog A2 zxl:=fun t=>⟨e_fbv h503,e_iaL (E:=3) (z:=1) (fun _=>rfl) (by kernel_rfl) (by kernel_rfl) (zd rfl) (za rfl) s506 s507 (zd rfl),e_ldP (by kernel_rfl) (zd rfl) (zd rfl),e_iaL (E:=3) (z:=1) (fun _=>rfl) (by kernel_rfl) (by kernel_rfl) (zd rfl) (za rfl) s510 s511 (zd rfl),e_ldP (by kernel_rfl) (zd rfl) (zd rfl),e_bin (za rfl) (za rfl) (za rfl) (r_cmp (LO e512)),T1 _⟩
  cases h513:v512 with
  | true =>
   exfalso
   have hz:=e501
   have dh503:=LD e502 h503
   have dh513:=bne_iff_ne.1 (e512.trans h513)
   have k0:n504=n:=(by omega)
   have k1:n508=n:=(by omega)
   have g0:l[n]?=some x505:=(by rw [← k0];exact s507)
   have g1:z2[n]?=some x509:=(by rw [← k1];exact s511)
   subst hq
   rw [g0] at g1
   injection g1 with g1
   exact dh513 g1
  | false =>
   obtain ⟨v514,e514⟩:=LX (IntKind.i64.wrap (i+(1:Int)))
   let A3:=fun t=>A2 (pI v514::t)
   have f3:LA (KN w0) A3:=fun t h=>f2 _ ⟨zc,h⟩
   have T3:LT (KN w0) Tryz.prog A3 zxm:=fun t=>⟨e_fbv h513,e_bin (za rfl) ze (za rfl) (r_ar (LO e514)),T2 _⟩
   refine .inr ⟨⟨v514⟩,?_,?_,goes (x:=.n) (y:=.n) (Fb:=FL (A3 []) []) (stb:=z8) (tl:=[.sl 0 (yh 0),.sl 1 (yh 1),.sl 5 (yh 13),.sl 6 (yh 0),.sl 7 (yh 2),.sl 8 (yh 1),.sl 9 (yh 3),.sl 10 (yh 4)]) (C:=zxm) (H:=.no) 5000 (LZ ⟨z_c yy,z_c yy,z_c yy,z_c yy,z_c yy,z_c yy,z_c yy,z_c yy,trivial⟩) (zg (f3 [] trivial)) (T3 []) mixed hR trivial (fun _ _ _ hs=>by cases hs) (by kernel_rfl) rfl (LZ ⟨z_c yy,z_c yy,z_c (fun β v W h=>(zd rfl β v W).2 h),z_c yy,z_c yy,z_c yy,z_c yy,z_c yy,trivial⟩)⟩
   all_goals (have hz:=e501;have dh503:=LD e502 h503;have dh513:=bne_eq_false_iff_eq.1 (e512.trans h513);have k0:n504=n:=(by omega);have k1:n508=n:=(by omega);have g0:l[n]?=some x505:=(by rw [← k0];exact s507);have g1:z2[n]?=some x509:=(by rw [← k1];exact s511);have x4:v514=((n+1:Nat):Int):=(by rw [← e514,hi,wri (by omega)];omega))
   ·show ((l.length:Int) - v514).toNat<((l.length:Int) - i).toNat
    omega
   ·exact ⟨n+1,x4,by omega,zdl ht g0 g1 dh513⟩
 | false =>
  have T4:LT (KN w0) Tryz.prog A1 zxn:=fun t=>⟨e_fbv h503,T1 _⟩
  exact .inl (goes (x:=(.x 0)) (y:=(.x 0)) (Fb:=FL (A1 []) []) (stb:=z8) (tl:=[.sl 0 (yh 0),.sl 1 (yh 1),.sl 6 (yh 0),.sl 7 (yh 2),.sl 8 (yh 1),.sl 9 (yh 3),.sl 10 (yh 4)]) (C:=zxn) (H:=.no) 5000 (LZ ⟨z_c yy,z_c yy,z_c yy,z_c yy,z_c yy,z_c yy,z_c yy,z_c yy,trivial⟩) (zg (f1 [] trivial)) (T4 []) mixed hR trivial (fun _ _ _ hs=>by cases hs) (by kernel_rfl) rfl (LZ ⟨z_c (LV u0),z_c (LV u1),z_c (LV u0),z_c (LV u2),z_c (LV u1),z_c (LV u3),z_c (LV u4),trivial⟩))
structure w_sameints_B_T where
 i:Int
def qc:List Atom:=[.sl 0 (yh 0),.sl 1 (yh 1),.sl 5 (yh 5),.sl 6 (yh 0),.sl 7 (yh 2),.sl 8 (yh 1),.sl 9 (yh 3),.sl 10 (yh 4)]
def qT:LoopS:=⟨4,[.sl 0 (yh 0),.sl 1 (yh 1),.sl 5 (.o (.c (.k (.int .i64 0)))),.sl 6 (yh 0),.sl 7 (yh 2),.sl 8 (yh 1),.sl 9 (yh 3),.sl 10 (yh 4)],.r,[.sl 0 (yh 0),.sl 1 (yh 1),.sl 4 (yh 5),.sl 6 (yh 0),.sl 7 (yh 2),.sl 8 (yh 1),.sl 9 (yh 3),.sl 10 (yh 4)]⟩
abbrev zxo:List (Nat×Ent):=(10004,.fb 4 false)::(1005002,.op (.len [22] 3) [yh 0] [] (yh 6))::(1005003,.bin .lss 3 (yh 5) (yh 6) (yh 7))::[]
abbrev zwC:List (Nat×Ent):=(10007,.fb 7 true)::(1005006,.op (.ia 22) [yh 0,yh 5] [] (yh 8))::(1005007,.op (.ld 3) [yh 8] [] (yh 9))::(1005010,.op (.ia 22) [yh 1,yh 5] [] (yh 10))::(1005011,.op (.ld 3) [yh 10] [] (yh 11))::(1005012,.bin .neq 3 (yh 9) (yh 11) (yh 12))::zxo
abbrev zxp:List (Nat×Ent):=(10012,.fb 12 true)::zwC
abbrev zxq:List (Nat×Ent):=(10012,.fb 12 false)::(1005014,.bin .add 3 (yh 5) (LF (.k (.int .i64 1))) (yh 13))::zwC
theorem zfj {w0:World} (l:(List Int)) (z2:(List Int)) (v1:Int) (v2:Int) (v3:Bool) (h4:v3=false) (o:Bool) {F:Fact} (u0:F.c 0=pLs cI l) (u1:F.c 1=pLs cI z2) (u2:F.c 2=pI v1) (u3:F.c 3=pI v2) (u4:F.c 4=pB v3) (u5:F.c 5=pB o) (R:Frm) (hR:R.pm=⟨ntOf Tryz.prog 37,[],[]⟩) (hlb:l.length<9223372036854775808) (hlm:l.length=z2.length) (hq:¬ l=z2) (hO:false=o):zj (KN w0) Tryz.prog F R qT (lp Tryz.prog 37 0):=by
 refine zG (T:=w_sameints_B_T) (fun t=>FL [pLs cI l,pLs cI z2,pI v1,pI v2,pB v3,pI t.i] []) (fun ⟨i⟩=>∃n:Nat,i=(n:Int)∧n≤l.length∧l.take n=z2.take n) (fun ⟨i⟩=>((l.length:Int) - i).toNat) { i:=(0:Int) } qc ⟨0,rfl,Nat.zero_le _,rfl⟩ (LZ ⟨z_c (LU u0),z_c (LU u1),z_c yy,z_c (LU u0),z_c (LU u2),z_c (LU u1),z_c (LU u3),z_c (LU u4),trivial⟩) rfl fun t hJ=>?_
 obtain ⟨i⟩:=t
 dsimp only at hJ
 obtain ⟨n,hi,hn,ht⟩:=hJ
 obtain ⟨v501,e501⟩:=LX ((l.length:Int))
 obtain ⟨v502,e502⟩:=LX (decide (i<v501))
 let A1:List Pred→List Pred:=fun t=>pLs cI l::pLs cI z2::pI v1::pI v2::pB v3::pI i::pI v501::pB v502::t
 have f1:LA (KN w0) A1:=fun t h=>⟨(zi zl),(zi zl),zc,zc,zc,zc,zc,zc,h⟩
 have T1:LT (KN w0) Tryz.prog A1 zxo:=fun t=>⟨e_fbv h4,zH (E:=3) (by kernel_rfl) (zd rfl) (za (by rw [e501];rfl)),e_bin (za rfl) (za rfl) (za rfl) (r_cmp (LO e502)),trivial⟩
 cases h503:v502 with
 | true =>
  obtain ⟨n504,x505,s506,s507⟩:∃(n504:Nat) (x505:Int),i=(n504:Int)∧l[n504]?=some x505:=by (have hz:=e501;have dh503:=LD e502 h503;have hlt:n<l.length:=(by omega);exact ⟨n,_,hi,List.getElem?_eq_getElem (by omega)⟩)
  obtain ⟨n508,x509,s510,s511⟩:∃(n508:Nat) (x509:Int),i=(n508:Int)∧z2[n508]?=some x509:=by (have hz:=e501;have dh503:=LD e502 h503;have hlt:n<l.length:=(by omega);exact ⟨n,_,hi,List.getElem?_eq_getElem (by omega)⟩)
  obtain ⟨v512,e512⟩:=LX ((x505 != x509))
  let A2:=fun t=>A1 (pP (cI x505)::pI x505::pP (cI x509)::pI x509::pB v512::t)
  have f2:LA (KN w0) A2:=fun t h=>f1 _ ⟨(qw (zl _)),zc,(qw (zl _)),zc,zc,h⟩
  have T2:LT (KN w0) Tryz.prog A2 zwC:=fun t=>⟨e_fbv h503,e_iaL (E:=3) (z:=1) (fun _=>rfl) (by kernel_rfl) (by kernel_rfl) (zd rfl) (za rfl) s506 s507 (zd rfl),e_ldP (by kernel_rfl) (zd rfl) (zd rfl),e_iaL (E:=3) (z:=1) (fun _=>rfl) (by kernel_rfl) (by kernel_rfl) (zd rfl) (za rfl) s510 s511 (zd rfl),e_ldP (by kernel_rfl) (zd rfl) (zd rfl),e_bin (za rfl) (za rfl) (za rfl) (r_cmp (LO e512)),T1 _⟩
  cases h513:v512 with
  | true =>
   have T3:LT (KN w0) Tryz.prog A2 zxp:=fun t=>⟨e_fbv h513,T2 _⟩
   have hq:((false)=o)∧True:=by
    refine ⟨?_,trivial⟩
    exact hO
   obtain ⟨q0,-⟩:=hq
   exact .inl (goes (x:=.r) (y:=.r) (Fb:=FL (A2 []) []) (stb:=qc) (tl:=[.sl 0 (yh 0),.sl 1 (yh 1),.sl 4 (.o (.c (.k (.bool false)))),.sl 6 (yh 0),.sl 7 (yh 2),.sl 8 (yh 1),.sl 9 (yh 3),.sl 10 (yh 4)]) (C:=zxp) (H:=.no) 5000 (LZ ⟨z_c yy,z_c yy,z_c yy,z_c yy,z_c yy,z_c yy,z_c yy,z_c yy,trivial⟩) (zg (f2 [] trivial)) (T3 []) mixed hR trivial (fun _ _ _ hs=>by cases hs) (by kernel_rfl) rfl (LZ ⟨z_c (LV u0),z_c (LV u1),z_c (fun β v W h=>(zd u5 β v W).2 (by rw [← q0];exact h)),z_c (LV u0),z_c (LV u2),z_c (LV u1),z_c (LV u3),z_c (LV u4),trivial⟩))
  | false =>
   obtain ⟨v514,e514⟩:=LX (IntKind.i64.wrap (i+(1:Int)))
   let A4:=fun t=>A2 (pI v514::t)
   have f4:LA (KN w0) A4:=fun t h=>f2 _ ⟨zc,h⟩
   have T4:LT (KN w0) Tryz.prog A4 zxq:=fun t=>⟨e_fbv h513,e_bin (za rfl) ze (za rfl) (r_ar (LO e514)),T2 _⟩
   refine .inr ⟨⟨v514⟩,?_,?_,goes (x:=.n) (y:=.n) (Fb:=FL (A4 []) []) (stb:=qc) (tl:=[.sl 0 (yh 0),.sl 1 (yh 1),.sl 5 (yh 13),.sl 6 (yh 0),.sl 7 (yh 2),.sl 8 (yh 1),.sl 9 (yh 3),.sl 10 (yh 4)]) (C:=zxq) (H:=.no) 5000 (LZ ⟨z_c yy,z_c yy,z_c yy,z_c yy,z_c yy,z_c yy,z_c yy,z_c yy,trivial⟩) (zg (f4 [] trivial)) (T4 []) mixed hR trivial (fun _ _ _ hs=>by cases hs) (by kernel_rfl) rfl (LZ ⟨z_c yy,z_c yy,z_c (fun β v W h=>(zd rfl β v W).2 h),z_c yy,z_c yy,z_c yy,z_c yy,z_c yy,trivial⟩)⟩
   all_goals (have hz:=e501;have dh503:=LD e502 h503;have dh513:=bne_eq_false_iff_eq.1 (e512.trans h513);have k0:n504=n:=(by omega);have k1:n508=n:=(by omega);have g0:l[n]?=some x505:=(by rw [← k0];exact s507);have g1:z2[n]?=some x509:=(by rw [← k1];exact s511);have x4:v514=((n+1:Nat):Int):=(by rw [← e514,hi,wri (by omega)];omega))
   ·show ((l.length:Int) - v514).toNat<((l.length:Int) - i).toNat
    omega
   ·exact ⟨n+1,x4,by omega,zdl ht g0 g1 dh513⟩
 | false =>
  exfalso
  have hz:=e501
  have dh503:=LE e502 h503
  have hnl:n=l.length:=(by omega)
  rw [hnl,List.take_length,hlm,List.take_length] at ht
  exact hq ht
abbrev zwS:List (Nat×Ent):=(1000002,.op (.len [22] 3) [yh 0] [] (yh 2))::(1000004,.op (.len [22] 3) [yh 1] [] (yh 3))::(1000005,.bin .neq 3 (yh 2) (yh 3) (yh 4))::[]
abbrev zxU:List (Nat×Ent):=(10004,.fb 4 true)::zwS
abbrev zwT:List (Nat×Ent):=(10004,.fb 4 false)::zwS
abbrev zxV:List (Nat×Ent):=zwT
theorem zgj {w0:World} (l z2:List Int) (r:Bool) (hr:decide (l=z2)=r) (hb:l.length<9223372036854775808):Fun (KN w0) Tryz.prog 37 [.o (.c (pLs cI l)),.o (.c (pLs cI z2))] (.o (.c (pB r))):=by
 obtain ⟨v1,e1⟩:=LX ((l.length:Int))
 obtain ⟨v2,e2⟩:=LX ((z2.length:Int))
 obtain ⟨v3,e3⟩:=LX ((v1 != v2))
 let A1:List Pred→List Pred:=fun t=>pLs cI l::pLs cI z2::pI v1::pI v2::pB v3::t
 have f1:LA (KN w0) A1:=fun t h=>⟨(zi zl),(zi zl),zc,zc,zc,h⟩
 have T1:LT (KN w0) Tryz.prog A1 zwS:=fun t=>⟨zH (E:=3) (by kernel_rfl) (zd rfl) (za (by rw [e1];rfl)),zH (E:=3) (by kernel_rfl) (zd rfl) (za (by rw [e2];rfl)),e_bin (za rfl) (za rfl) (za rfl) (r_cmp (LO e3)),trivial⟩
 cases h4:v3 with
 | true =>
  have T2:LT (KN w0) Tryz.prog A1 zxU:=fun t=>⟨e_fbv h4,T1 _⟩
  refine Fun.fin (r:=.o (.c (pV (.bool false)))) (zq (zr (F:=FL (A1 []) []) (C:=zxU) (k:=⟨37,[yh 0,yh 1],[],.o (.c (.k (.bool false))),[]⟩) 0 (zg (f1 [] trivial)) (T2 []) mixed (by kernel_rfl))) (fun v W D h=>?_)
  have r0:r=false:=by
   rw [← hr];refine decide_eq_false fun hq=>?_;have d:=bne_iff_ne.1 (e3.trans h4);rw [hq] at e1;omega
  rw [r0];exact h
 | false =>
  have T3:LT (KN w0) Tryz.prog A1 zwT:=fun t=>⟨e_fbv h4,T1 _⟩
  by_cases c4:l=z2
  ·
   have L_w_sameints_A:∀R:Frm,R.pm=⟨ntOf Tryz.prog 37,[],[]⟩→zj (KN w0) Tryz.prog (FL (A1 []) []) R qS (lp Tryz.prog 37 0):=fun R hR=>zfg l z2 v1 v2 v3 h4  rfl rfl rfl rfl rfl R hR hb (by have d:=bne_eq_false_iff_eq.1 (e3.trans h4);omega) c4
   refine Fun.fin (r:=.o (.c (pV (.bool true)))) (zq (zN (F:=FL (A1 []) []) (C:=zwT) (k:=⟨37,[yh 0,yh 1],[],.o (.c (.k (.bool true))),[]⟩) ⟨[qS],[],0⟩ [] 0 (zg (f1 [] trivial)) (T3 []) mixed trivial (fun R hR p hp s hs=>by
    have hl:zD (zR Tryz.prog 37)=[(4,lp Tryz.prog 37 0)]:=by kernel_rfl
    rw [hl] at hp
    simp only [List.mem_cons,List.not_mem_nil,or_false] at hp
    rcases hp with rfl
    ·have e:s=qS:=(Option.some.inj hs).symm
     subst e;exact L_w_sameints_A R hR) (by kernel_rfl))) (fun v W D h=>?_)
   have r0:r=true:=by
    rw [← hr];exact decide_eq_true c4
   rw [r0];exact h
  ·
   obtain ⟨o,hO_w_sameints_B⟩:∃(o:Bool),false=o:=⟨_,rfl⟩
   let A4:=fun t=>A1 (pB o::t)
   have f4:LA (KN w0) A4:=fun t h=>f1 _ ⟨zc,h⟩
   have T4:LT (KN w0) Tryz.prog A4 zxV:=fun t=>T3 _
   have L_w_sameints_B:∀R:Frm,R.pm=⟨ntOf Tryz.prog 37,[],[]⟩→zj (KN w0) Tryz.prog (FL (A4 []) []) R qT (lp Tryz.prog 37 0):=fun R hR=>zfj l z2 v1 v2 v3 h4 o rfl rfl rfl rfl rfl rfl R hR hb (by have d:=bne_eq_false_iff_eq.1 (e3.trans h4);omega) c4 hO_w_sameints_B
   refine Fun.fin (r:=.o (.c (pB o))) (zq (zN (F:=FL (A4 []) []) (C:=zxV) (k:=⟨37,[yh 0,yh 1],[],yh 5,[]⟩) ⟨[qT],[],0⟩ [] 0 (zg (f4 [] trivial)) (T4 []) mixed trivial (fun R hR p hp s hs=>by
    have hl:zD (zR Tryz.prog 37)=[(4,lp Tryz.prog 37 0)]:=by kernel_rfl
    rw [hl] at hp
    simp only [List.mem_cons,List.not_mem_nil,or_false] at hp
    rcases hp with rfl
    ·have e:s=qT:=(Option.some.inj hs).symm
     subst e;exact L_w_sameints_B R hR) (by kernel_rfl))) (fun v W D h=>?_)
   have r0:r=o:=by
    rw [← hr,← hO_w_sameints_B];exact decide_eq_false c4
   rw [r0];exact h
structure w_samecell_A_T where
 i:Int
def z6:List Atom:=[.sl 0 (yh 0),.sl 1 (yh 1),.sl 5 (yh 5),.sl 6 (yh 0),.sl 7 (yh 2),.sl 8 (yh 1),.sl 9 (yh 3),.sl 10 (yh 4)]
def qQ:LoopS:=⟨4,[.sl 0 (yh 0),.sl 1 (yh 1),.sl 5 (.o (.c (.k (.int .i64 0)))),.sl 6 (yh 0),.sl 7 (yh 2),.sl 8 (yh 1),.sl 9 (yh 3),.sl 10 (yh 4)],(.x 0),[.sl 0 (yh 0),.sl 1 (yh 1),.sl 6 (yh 0),.sl 7 (yh 2),.sl 8 (yh 1),.sl 9 (yh 3),.sl 10 (yh 4)]⟩
abbrev zwz:List (Nat×Ent):=(10004,.fb 4 false)::(1005002,.op (.len [25] 3) [yh 0] [] (yh 6))::(1005003,.bin .lss 3 (yh 5) (yh 6) (yh 7))::[]
abbrev zxf:List (Nat×Ent):=(10007,.fb 7 true)::(1005006,.op (.ia 25) [yh 0,yh 5] [] (yh 8))::(1005007,.op (.ld 69) [yh 8] [] (.o (.g [.h 9,.h 10,.h 11,.h 12])))::(1005010,.op (.ia 25) [yh 1,yh 5] [] (yh 13))::(1005011,.op (.ld 69) [yh 13] [] (.o (.g [.h 14,.h 15,.h 16,.h 17])))::(1005012,.bin .neq 69 (.o (.g [.h 9,.h 10,.h 11,.h 12])) (.o (.g [.h 14,.h 15,.h 16,.h 17])) (yh 18))::zwz
abbrev zxg:List (Nat×Ent):=(10018,.fb 18 false)::(1005014,.bin .add 3 (yh 5) (LF (.k (.int .i64 1))) (yh 19))::zxf
abbrev zxh:List (Nat×Ent):=(10007,.fb 7 false)::zwz
theorem zfa {w0:World} (l:(List Pl)) (z2:(List Pl)) (v1:Int) (v2:Int) (v3:Bool) (h4:v3=false) {F:Fact} (u0:F.c 0=pLs cPl l) (u1:F.c 1=pLs cPl z2) (u2:F.c 2=pI v1) (u3:F.c 3=pI v2) (u4:F.c 4=pB v3) (R:Frm) (hR:R.pm=⟨ntOf Tryz.prog 56,[],[]⟩) (hlb:l.length<9223372036854775808) (hlm:l.length=z2.length) (hq:l=z2):zj (KN w0) Tryz.prog F R qQ (lp Tryz.prog 56 0):=by
 refine zG (T:=w_samecell_A_T) (fun t=>FL [pLs cPl l,pLs cPl z2,pI v1,pI v2,pB v3,pI t.i] []) (fun ⟨i⟩=>∃n:Nat,i=(n:Int)∧n≤l.length∧l.take n=z2.take n) (fun ⟨i⟩=>((l.length:Int) - i).toNat) { i:=(0:Int) } z6 ⟨0,rfl,Nat.zero_le _,rfl⟩ (LZ ⟨z_c (LU u0),z_c (LU u1),z_c yy,z_c (LU u0),z_c (LU u2),z_c (LU u1),z_c (LU u3),z_c (LU u4),trivial⟩) rfl fun t hJ=>?_
 obtain ⟨i⟩:=t
 dsimp only at hJ
 obtain ⟨n,hi,hn,ht⟩:=hJ
 obtain ⟨v501,e501⟩:=LX ((l.length:Int))
 obtain ⟨v502,e502⟩:=LX (decide (i<v501))
 let A1:List Pred→List Pred:=fun t=>pLs cPl l::pLs cPl z2::pI v1::pI v2::pB v3::pI i::pI v501::pB v502::t
 have f1:LA (KN w0) A1:=fun t h=>⟨(zi zo),(zi zo),zc,zc,zc,zc,zc,zc,h⟩
 have T1:LT (KN w0) Tryz.prog A1 zwz:=fun t=>⟨e_fbv h4,zH (E:=69) (by kernel_rfl) (zd rfl) (za (by rw [e501];rfl)),e_bin (za rfl) (za rfl) (za rfl) (r_cmp (LO e502)),trivial⟩
 cases h503:v502 with
 | true =>
  obtain ⟨n504,x505,s506,s507⟩:∃(n504:Nat) (x505:Pl),i=(n504:Int)∧l[n504]?=some x505:=by (have hz:=e501;have dh503:=LD e502 h503;have hlt:n<l.length:=(by omega);exact ⟨n,_,hi,List.getElem?_eq_getElem (by omega)⟩)
  obtain ⟨n508,x509,s510,s511⟩:∃(n508:Nat) (x509:Pl),i=(n508:Int)∧z2[n508]?=some x509:=by (have hz:=e501;have dh503:=LD e502 h503;have hlt:n<l.length:=(by omega);exact ⟨n,_,hi,List.getElem?_eq_getElem (by omega)⟩)
  obtain ⟨v512,e512⟩:=LX (!decide (x505=x509))
  let A2:=fun t=>A1 (pP (cPl x505)::pI x505.1.1::pI x505.1.2.1::pI x505.1.2.2::pI x505.2::pP (cPl x509)::pI x509.1.1::pI x509.1.2.1::pI x509.1.2.2::pI x509.2::pB v512::t)
  have f2:LA (KN w0) A2:=fun t h=>f1 _ ⟨(qw (zo _)),zc,zc,zc,zc,(qw (zo _)),zc,zc,zc,zc,zc,h⟩
  have T2:LT (KN w0) Tryz.prog A2 zxf:=fun t=>⟨e_fbv h503,e_iaL (E:=69) (z:=4) (fun _=>rfl) (by kernel_rfl) (by kernel_rfl) (zd rfl) (za rfl) s506 s507 (zd rfl),e_ldG (by kernel_rfl) (by kernel_rfl) (zd rfl) rfl rfl rfl,e_iaL (E:=69) (z:=4) (fun _=>rfl) (by kernel_rfl) (by kernel_rfl) (zd rfl) (za rfl) s510 s511 (zd rfl),e_ldG (by kernel_rfl) (by kernel_rfl) (zd rfl) rfl rfl rfl,e_eqP (x:=x505) (y:=x509) (neg:=true) ⟨(za rfl),(za rfl),(za rfl),(za rfl),trivial⟩ ⟨(za rfl),(za rfl),(za rfl),(za rfl),trivial⟩ (za (by rw [e512];rfl)),T1 _⟩
  cases h513:v512 with
  | true =>
   exfalso
   have hz:=e501
   have dh503:=LD e502 h503
   have dh513:=of_decide_eq_false (show decide _=false by have t:=(e512.trans h513);simpa using t)
   have k0:n504=n:=(by omega)
   have k1:n508=n:=(by omega)
   have g0:l[n]?=some x505:=(by rw [← k0];exact s507)
   have g1:z2[n]?=some x509:=(by rw [← k1];exact s511)
   subst hq
   rw [g0] at g1
   injection g1 with g1
   exact dh513 g1
  | false =>
   obtain ⟨v514,e514⟩:=LX (IntKind.i64.wrap (i+(1:Int)))
   let A3:=fun t=>A2 (pI v514::t)
   have f3:LA (KN w0) A3:=fun t h=>f2 _ ⟨zc,h⟩
   have T3:LT (KN w0) Tryz.prog A3 zxg:=fun t=>⟨e_fbv h513,e_bin (za rfl) ze (za rfl) (r_ar (LO e514)),T2 _⟩
   refine .inr ⟨⟨v514⟩,?_,?_,goes (x:=.n) (y:=.n) (Fb:=FL (A3 []) []) (stb:=z6) (tl:=[.sl 0 (yh 0),.sl 1 (yh 1),.sl 5 (yh 19),.sl 6 (yh 0),.sl 7 (yh 2),.sl 8 (yh 1),.sl 9 (yh 3),.sl 10 (yh 4)]) (C:=zxg) (H:=.no) 5000 (LZ ⟨z_c yy,z_c yy,z_c yy,z_c yy,z_c yy,z_c yy,z_c yy,z_c yy,trivial⟩) (zg (f3 [] trivial)) (T3 []) mixed hR trivial (fun _ _ _ hs=>by cases hs) (by kernel_rfl) rfl (LZ ⟨z_c yy,z_c yy,z_c (fun β v W h=>(zd rfl β v W).2 h),z_c yy,z_c yy,z_c yy,z_c yy,z_c yy,trivial⟩)⟩
   all_goals (have hz:=e501;have dh503:=LD e502 h503;have dh513:=of_decide_eq_true (show decide _=true by have t:=(e512.trans h513);simpa using t);have k0:n504=n:=(by omega);have k1:n508=n:=(by omega);have g0:l[n]?=some x505:=(by rw [← k0];exact s507);have g1:z2[n]?=some x509:=(by rw [← k1];exact s511);have x4:v514=((n+1:Nat):Int):=(by rw [← e514,hi,wri (by omega)];omega))
   ·show ((l.length:Int) - v514).toNat<((l.length:Int) - i).toNat
    omega
   ·exact ⟨n+1,x4,by omega,zdl ht g0 g1 dh513⟩
 | false =>
  have T4:LT (KN w0) Tryz.prog A1 zxh:=fun t=>⟨e_fbv h503,T1 _⟩
  exact .inl (goes (x:=(.x 0)) (y:=(.x 0)) (Fb:=FL (A1 []) []) (stb:=z6) (tl:=[.sl 0 (yh 0),.sl 1 (yh 1),.sl 6 (yh 0),.sl 7 (yh 2),.sl 8 (yh 1),.sl 9 (yh 3),.sl 10 (yh 4)]) (C:=zxh) (H:=.no) 5000 (LZ ⟨z_c yy,z_c yy,z_c yy,z_c yy,z_c yy,z_c yy,z_c yy,z_c yy,trivial⟩) (zg (f1 [] trivial)) (T4 []) mixed hR trivial (fun _ _ _ hs=>by cases hs) (by kernel_rfl) rfl (LZ ⟨z_c (LV u0),z_c (LV u1),z_c (LV u0),z_c (LV u2),z_c (LV u1),z_c (LV u3),z_c (LV u4),trivial⟩))
structure w_samecell_B_T where
 i:Int
def z7:List Atom:=[.sl 0 (yh 0),.sl 1 (yh 1),.sl 5 (yh 5),.sl 6 (yh 0),.sl 7 (yh 2),.sl 8 (yh 1),.sl 9 (yh 3),.sl 10 (yh 4)]
def qR:LoopS:=⟨4,[.sl 0 (yh 0),.sl 1 (yh 1),.sl 5 (.o (.c (.k (.int .i64 0)))),.sl 6 (yh 0),.sl 7 (yh 2),.sl 8 (yh 1),.sl 9 (yh 3),.sl 10 (yh 4)],.r,[.sl 0 (yh 0),.sl 1 (yh 1),.sl 4 (yh 5),.sl 6 (yh 0),.sl 7 (yh 2),.sl 8 (yh 1),.sl 9 (yh 3),.sl 10 (yh 4)]⟩
abbrev zxi:List (Nat×Ent):=(10004,.fb 4 false)::(1005002,.op (.len [25] 3) [yh 0] [] (yh 6))::(1005003,.bin .lss 3 (yh 5) (yh 6) (yh 7))::[]
abbrev zwA:List (Nat×Ent):=(10007,.fb 7 true)::(1005006,.op (.ia 25) [yh 0,yh 5] [] (yh 8))::(1005007,.op (.ld 69) [yh 8] [] (.o (.g [.h 9,.h 10,.h 11,.h 12])))::(1005010,.op (.ia 25) [yh 1,yh 5] [] (yh 13))::(1005011,.op (.ld 69) [yh 13] [] (.o (.g [.h 14,.h 15,.h 16,.h 17])))::(1005012,.bin .neq 69 (.o (.g [.h 9,.h 10,.h 11,.h 12])) (.o (.g [.h 14,.h 15,.h 16,.h 17])) (yh 18))::zxi
abbrev zxj:List (Nat×Ent):=(10018,.fb 18 true)::zwA
abbrev zxk:List (Nat×Ent):=(10018,.fb 18 false)::(1005014,.bin .add 3 (yh 5) (LF (.k (.int .i64 1))) (yh 19))::zwA
theorem zfd {w0:World} (l:(List Pl)) (z2:(List Pl)) (v1:Int) (v2:Int) (v3:Bool) (h4:v3=false) (o:Bool) {F:Fact} (u0:F.c 0=pLs cPl l) (u1:F.c 1=pLs cPl z2) (u2:F.c 2=pI v1) (u3:F.c 3=pI v2) (u4:F.c 4=pB v3) (u5:F.c 5=pB o) (R:Frm) (hR:R.pm=⟨ntOf Tryz.prog 56,[],[]⟩) (hlb:l.length<9223372036854775808) (hlm:l.length=z2.length) (hq:¬ l=z2) (hO:false=o):zj (KN w0) Tryz.prog F R qR (lp Tryz.prog 56 0):=by
 refine zG (T:=w_samecell_B_T) (fun t=>FL [pLs cPl l,pLs cPl z2,pI v1,pI v2,pB v3,pI t.i] []) (fun ⟨i⟩=>∃n:Nat,i=(n:Int)∧n≤l.length∧l.take n=z2.take n) (fun ⟨i⟩=>((l.length:Int) - i).toNat) { i:=(0:Int) } z7 ⟨0,rfl,Nat.zero_le _,rfl⟩ (LZ ⟨z_c (LU u0),z_c (LU u1),z_c yy,z_c (LU u0),z_c (LU u2),z_c (LU u1),z_c (LU u3),z_c (LU u4),trivial⟩) rfl fun t hJ=>?_
 obtain ⟨i⟩:=t
 dsimp only at hJ
 obtain ⟨n,hi,hn,ht⟩:=hJ
 obtain ⟨v501,e501⟩:=LX ((l.length:Int))
 obtain ⟨v502,e502⟩:=LX (decide (i<v501))
 let A1:List Pred→List Pred:=fun t=>pLs cPl l::pLs cPl z2::pI v1::pI v2::pB v3::pI i::pI v501::pB v502::t
 have f1:LA (KN w0) A1:=fun t h=>⟨(zi zo),(zi zo),zc,zc,zc,zc,zc,zc,h⟩
 have T1:LT (KN w0) Tryz.prog A1 zxi:=fun t=>⟨e_fbv h4,zH (E:=69) (by kernel_rfl) (zd rfl) (za (by rw [e501];rfl)),e_bin (za rfl) (za rfl) (za rfl) (r_cmp (LO e502)),trivial⟩
 cases h503:v502 with
 | true =>
  obtain ⟨n504,x505,s506,s507⟩:∃(n504:Nat) (x505:Pl),i=(n504:Int)∧l[n504]?=some x505:=by (have hz:=e501;have dh503:=LD e502 h503;have hlt:n<l.length:=(by omega);exact ⟨n,_,hi,List.getElem?_eq_getElem (by omega)⟩)
  obtain ⟨n508,x509,s510,s511⟩:∃(n508:Nat) (x509:Pl),i=(n508:Int)∧z2[n508]?=some x509:=by (have hz:=e501;have dh503:=LD e502 h503;have hlt:n<l.length:=(by omega);exact ⟨n,_,hi,List.getElem?_eq_getElem (by omega)⟩)
  obtain ⟨v512,e512⟩:=LX (!decide (x505=x509))
  let A2:=fun t=>A1 (pP (cPl x505)::pI x505.1.1::pI x505.1.2.1::pI x505.1.2.2::pI x505.2::pP (cPl x509)::pI x509.1.1::pI x509.1.2.1::pI x509.1.2.2::pI x509.2::pB v512::t)
  have f2:LA (KN w0) A2:=fun t h=>f1 _ ⟨(qw (zo _)),zc,zc,zc,zc,(qw (zo _)),zc,zc,zc,zc,zc,h⟩
  have T2:LT (KN w0) Tryz.prog A2 zwA:=fun t=>⟨e_fbv h503,e_iaL (E:=69) (z:=4) (fun _=>rfl) (by kernel_rfl) (by kernel_rfl) (zd rfl) (za rfl) s506 s507 (zd rfl),e_ldG (by kernel_rfl) (by kernel_rfl) (zd rfl) rfl rfl rfl,e_iaL (E:=69) (z:=4) (fun _=>rfl) (by kernel_rfl) (by kernel_rfl) (zd rfl) (za rfl) s510 s511 (zd rfl),e_ldG (by kernel_rfl) (by kernel_rfl) (zd rfl) rfl rfl rfl,e_eqP (x:=x505) (y:=x509) (neg:=true) ⟨(za rfl),(za rfl),(za rfl),(za rfl),trivial⟩ ⟨(za rfl),(za rfl),(za rfl),(za rfl),trivial⟩ (za (by rw [e512];rfl)),T1 _⟩
  cases h513:v512 with
  | true =>
   have T3:LT (KN w0) Tryz.prog A2 zxj:=fun t=>⟨e_fbv h513,T2 _⟩
   have hq:((false)=o)∧True:=by
    refine ⟨?_,trivial⟩
    exact hO
   obtain ⟨q0,-⟩:=hq
   exact .inl (goes (x:=.r) (y:=.r) (Fb:=FL (A2 []) []) (stb:=z7) (tl:=[.sl 0 (yh 0),.sl 1 (yh 1),.sl 4 (.o (.c (.k (.bool false)))),.sl 6 (yh 0),.sl 7 (yh 2),.sl 8 (yh 1),.sl 9 (yh 3),.sl 10 (yh 4)]) (C:=zxj) (H:=.no) 5000 (LZ ⟨z_c yy,z_c yy,z_c yy,z_c yy,z_c yy,z_c yy,z_c yy,z_c yy,trivial⟩) (zg (f2 [] trivial)) (T3 []) mixed hR trivial (fun _ _ _ hs=>by cases hs) (by kernel_rfl) rfl (LZ ⟨z_c (LV u0),z_c (LV u1),z_c (fun β v W h=>(zd u5 β v W).2 (by rw [← q0];exact h)),z_c (LV u0),z_c (LV u2),z_c (LV u1),z_c (LV u3),z_c (LV u4),trivial⟩))
  | false =>
   obtain ⟨v514,e514⟩:=LX (IntKind.i64.wrap (i+(1:Int)))
   let A4:=fun t=>A2 (pI v514::t)
   have f4:LA (KN w0) A4:=fun t h=>f2 _ ⟨zc,h⟩
   have T4:LT (KN w0) Tryz.prog A4 zxk:=fun t=>⟨e_fbv h513,e_bin (za rfl) ze (za rfl) (r_ar (LO e514)),T2 _⟩
   refine .inr ⟨⟨v514⟩,?_,?_,goes (x:=.n) (y:=.n) (Fb:=FL (A4 []) []) (stb:=z7) (tl:=[.sl 0 (yh 0),.sl 1 (yh 1),.sl 5 (yh 19),.sl 6 (yh 0),.sl 7 (yh 2),.sl 8 (yh 1),.sl 9 (yh 3),.sl 10 (yh 4)]) (C:=zxk) (H:=.no) 5000 (LZ ⟨z_c yy,z_c yy,z_c yy,z_c yy,z_c yy,z_c yy,z_c yy,z_c yy,trivial⟩) (zg (f4 [] trivial)) (T4 []) mixed hR trivial (fun _ _ _ hs=>by cases hs) (by kernel_rfl) rfl (LZ ⟨z_c yy,z_c yy,z_c (fun β v W h=>(zd rfl β v W).2 h),z_c yy,z_c yy,z_c yy,z_c yy,z_c yy,trivial⟩)⟩
   all_goals (have hz:=e501;have dh503:=LD e502 h503;have dh513:=of_decide_eq_true (show decide _=true by have t:=(e512.trans h513);simpa using t);have k0:n504=n:=(by omega);have k1:n508=n:=(by omega);have g0:l[n]?=some x505:=(by rw [← k0];exact s507);have g1:z2[n]?=some x509:=(by rw [← k1];exact s511);have x4:v514=((n+1:Nat):Int):=(by rw [← e514,hi,wri (by omega)];omega))
   ·show ((l.length:Int) - v514).toNat<((l.length:Int) - i).toNat
    omega
   ·exact ⟨n+1,x4,by omega,zdl ht g0 g1 dh513⟩
 | false =>
  exfalso
  have hz:=e501
  have dh503:=LE e502 h503
  have hnl:n=l.length:=(by omega)
  rw [hnl,List.take_length,hlm,List.take_length] at ht
  exact hq ht
abbrev zwQ:List (Nat×Ent):=(1000002,.op (.len [25] 3) [yh 0] [] (yh 2))::(1000004,.op (.len [25] 3) [yh 1] [] (yh 3))::(1000005,.bin .neq 3 (yh 2) (yh 3) (yh 4))::[]
abbrev zxS:List (Nat×Ent):=(10004,.fb 4 true)::zwQ
abbrev zwR:List (Nat×Ent):=(10004,.fb 4 false)::zwQ
abbrev zxT:List (Nat×Ent):=zwR
theorem znP {w0:World} (l z2:List Pl) (r:Bool) (hr:decide (l=z2)=r) (hb:l.length<9223372036854775808):Fun (KN w0) Tryz.prog 56 [.o (.c (pLs cPl l)),.o (.c (pLs cPl z2))] (.o (.c (pB r))):=by
 obtain ⟨v1,e1⟩:=LX ((l.length:Int))
 obtain ⟨v2,e2⟩:=LX ((z2.length:Int))
 obtain ⟨v3,e3⟩:=LX ((v1 != v2))
 let A1:List Pred→List Pred:=fun t=>pLs cPl l::pLs cPl z2::pI v1::pI v2::pB v3::t
 have f1:LA (KN w0) A1:=fun t h=>⟨(zi zo),(zi zo),zc,zc,zc,h⟩
 have T1:LT (KN w0) Tryz.prog A1 zwQ:=fun t=>⟨zH (E:=69) (by kernel_rfl) (zd rfl) (za (by rw [e1];rfl)),zH (E:=69) (by kernel_rfl) (zd rfl) (za (by rw [e2];rfl)),e_bin (za rfl) (za rfl) (za rfl) (r_cmp (LO e3)),trivial⟩
 cases h4:v3 with
 | true =>
  have T2:LT (KN w0) Tryz.prog A1 zxS:=fun t=>⟨e_fbv h4,T1 _⟩
  refine Fun.fin (r:=.o (.c (pV (.bool false)))) (zq (zr (F:=FL (A1 []) []) (C:=zxS) (k:=⟨56,[yh 0,yh 1],[],.o (.c (.k (.bool false))),[]⟩) 0 (zg (f1 [] trivial)) (T2 []) mixed (by kernel_rfl))) (fun v W D h=>?_)
  have r0:r=false:=by
   rw [← hr];refine decide_eq_false fun hq=>?_;have d:=bne_iff_ne.1 (e3.trans h4);rw [hq] at e1;omega
  rw [r0];exact h
 | false =>
  have T3:LT (KN w0) Tryz.prog A1 zwR:=fun t=>⟨e_fbv h4,T1 _⟩
  by_cases c4:l=z2
  ·
   have L_w_samecell_A:∀R:Frm,R.pm=⟨ntOf Tryz.prog 56,[],[]⟩→zj (KN w0) Tryz.prog (FL (A1 []) []) R qQ (lp Tryz.prog 56 0):=fun R hR=>zfa l z2 v1 v2 v3 h4  rfl rfl rfl rfl rfl R hR hb (by have d:=bne_eq_false_iff_eq.1 (e3.trans h4);omega) c4
   refine Fun.fin (r:=.o (.c (pV (.bool true)))) (zq (zN (F:=FL (A1 []) []) (C:=zwR) (k:=⟨56,[yh 0,yh 1],[],.o (.c (.k (.bool true))),[]⟩) ⟨[qQ],[],0⟩ [] 0 (zg (f1 [] trivial)) (T3 []) mixed trivial (fun R hR p hp s hs=>by
    have hl:zD (zR Tryz.prog 56)=[(4,lp Tryz.prog 56 0)]:=by kernel_rfl
    rw [hl] at hp
    simp only [List.mem_cons,List.not_mem_nil,or_false] at hp
    rcases hp with rfl
    ·have e:s=qQ:=(Option.some.inj hs).symm
     subst e;exact L_w_samecell_A R hR) (by kernel_rfl))) (fun v W D h=>?_)
   have r0:r=true:=by
    rw [← hr];exact decide_eq_true c4
   rw [r0];exact h
  ·
   obtain ⟨o,hO_w_samecell_B⟩:∃(o:Bool),false=o:=⟨_,rfl⟩
   let A4:=fun t=>A1 (pB o::t)
   have f4:LA (KN w0) A4:=fun t h=>f1 _ ⟨zc,h⟩
   have T4:LT (KN w0) Tryz.prog A4 zxT:=fun t=>T3 _
   have L_w_samecell_B:∀R:Frm,R.pm=⟨ntOf Tryz.prog 56,[],[]⟩→zj (KN w0) Tryz.prog (FL (A4 []) []) R qR (lp Tryz.prog 56 0):=fun R hR=>zfd l z2 v1 v2 v3 h4 o rfl rfl rfl rfl rfl rfl R hR hb (by have d:=bne_eq_false_iff_eq.1 (e3.trans h4);omega) c4 hO_w_samecell_B
   refine Fun.fin (r:=.o (.c (pB o))) (zq (zN (F:=FL (A4 []) []) (C:=zxT) (k:=⟨56,[yh 0,yh 1],[],yh 5,[]⟩) ⟨[qR],[],0⟩ [] 0 (zg (f4 [] trivial)) (T4 []) mixed trivial (fun R hR p hp s hs=>by
    have hl:zD (zR Tryz.prog 56)=[(4,lp Tryz.prog 56 0)]:=by kernel_rfl
    rw [hl] at hp
    simp only [List.mem_cons,List.not_mem_nil,or_false] at hp
    rcases hp with rfl
    ·have e:s=qR:=(Option.some.inj hs).symm
     subst e;exact L_w_samecell_B R hR) (by kernel_rfl))) (fun v W D h=>?_)
   have r0:r=o:=by
    rw [← hr,← hO_w_samecell_B];exact decide_eq_false c4
   rw [r0];exact h
end Go.Proofs.YtjcegdldgjphiaaGreatDoor
namespace Go.Proofs.YtjcegdldgjphiaaGreatDoor
open Go.RowKit Go.Shelf
abbrev zw2:List (Nat×Ent):=(1000002,.bin .eql 3 (yh 2) (LF (.k (.int .i64 0))) (yh 3))::[]
abbrev zx9:List (Nat×Ent):=(10003,.fb 3 true)::(1000005,.call ⟨36,[.o (.c (.p 900 0))],[.bx 900 62 [.h 0,.h 1]],yh 4,[.bx 900 62 [.h 5,.h 6]]⟩)::(1000006,.bin .eql 3 (yh 4) (LF (.k (.int .i64 0))) (yh 7))::zw2
abbrev zw3:List (Nat×Ent):=(10003,.fb 3 false)::(1000004,.bin .eql 3 (yh 2) (LF (.k (.int .i64 1))) (yh 4))::zw2
abbrev zya:List (Nat×Ent):=(10004,.fb 4 true)::(1000007,.call ⟨51,[.o (.c (.p 900 0))],[.bx 900 62 [.h 0,.h 1]],yh 5,[.bx 900 62 [.h 6,.h 7]]⟩)::(1000008,.bin .eql 9 (yh 5) (LF (.k (.string ⟨#[]⟩))) (yh 8))::zw3
abbrev zw4:List (Nat×Ent):=(10004,.fb 4 false)::(1000006,.bin .eql 3 (yh 2) (LF (.k (.int .i64 2))) (yh 5))::zw3
abbrev zyb:List (Nat×Ent):=(10005,.fb 5 true)::(1000009,.call ⟨35,[.o (.c (.p 900 0))],[.bx 900 62 [.h 0,.h 1]],yh 6,[.bx 900 62 [.h 7,.h 8]]⟩)::(1000010,.op (.len [22] 3) [yh 6] [] (yh 9))::(1000011,.bin .eql 3 (yh 9) (LF (.k (.int .i64 0))) (yh 10))::zw4
abbrev zw5:List (Nat×Ent):=(10005,.fb 5 false)::(1000008,.bin .eql 3 (yh 2) (LF (.k (.int .i64 3))) (yh 6))::zw4
abbrev zyc:List (Nat×Ent):=(10006,.fb 6 true)::(1000011,.call ⟨54,[.o (.c (.p 900 0))],[.bx 900 62 [.h 0,.h 1]],.o (.g [.h 7,.h 8,.h 9]),[.bx 900 62 [.h 10,.h 11]]⟩)::(1000013,.bin .eql 24 (.o (.g [.h 7,.h 8,.h 9])) (.o (.g [.k (.int .i64 0),.k (.int .i64 0),.k (.int .i64 0)])) (yh 12))::zw5
abbrev zw6:List (Nat×Ent):=(10006,.fb 6 false)::(1000010,.bin .eql 3 (yh 2) (LF (.k (.int .i64 4))) (yh 7))::zw5
abbrev zxI:List (Nat×Ent):=(10007,.fb 7 true)::(1000013,.call ⟨57,[.o (.c (.p 900 0))],[.bx 900 62 [.h 0,.h 1]],yh 8,[.bx 900 62 [.h 9,.h 10]]⟩)::(1000014,.op (.len [25] 3) [yh 8] [] (yh 11))::(1000015,.bin .eql 3 (yh 11) (LF (.k (.int .i64 0))) (yh 12))::zw6
abbrev zxJ:List (Nat×Ent):=(10007,.fb 7 false)::(1000013,.call ⟨60,[.o (.c (.p 900 0))],[.bx 900 62 [.h 0,.h 1]],.o (.g [.h 8,.h 9,.h 10,.h 11]),[.bx 900 62 [.h 12,.h 13]]⟩)::(1000015,.call ⟨59,[.o (.g [.h 8,.h 9,.h 10,.h 11]),.o (.g [.k (.bool false),.k (.slice none 0 0),.k (.bool false),.k (.slice none 0 0)])],[],yh 14,[]⟩)::zw6
theorem ze7 {w0:World} (hM:LM w0) (hTS:LS w0) (c:Int) (st:St) (r:Bool) (st2:St) (hr:nthB c st=r) (hs:callS c st=st2) (hle:leftN st≤1000000):BFun false (KN w0) Tryz.prog 27 [.o (.c (.p 0 0)),.o (.c (.d (pI c)))] [(62,[.d (pS (lfO st)),.d (pB (bdO st))])] (.o (.c (.d (pB r)))) [(62,[.d (pS (lfO st2)),.d (pB (bdO st2))])]:=by
 obtain ⟨v1,e1⟩:=LX ((c == (0:Int)))
 let A1:List Pred→List Pred:=fun t=>pS (lfO st)::pB (bdO st)::pI c::pB v1::t
 have f1:LA (KN w0) A1:=fun t h=>⟨zc,zc,zc,zc,h⟩
 have T1:LT (KN w0) Tryz.prog A1 zw2:=fun t=>⟨e_bin (za rfl) ze (za rfl) (r_cmp (LO e1)),trivial⟩
 cases h2:v1 with
 | true =>
  obtain ⟨v3,e3⟩:=LX ((rdI st).1)
  obtain ⟨v4,e4⟩:=LX ((rdI st).2)
  obtain ⟨v5,e5⟩:=LX ((v3 == (0:Int)))
  let A2:=fun t=>A1 (pI v3::pS (lfO v4)::pB (bdO v4)::pB v5::t)
  have f2:LA (KN w0) A2:=fun t h=>f1 _ ⟨zc,zc,zc,zc,h⟩
  have T2:LT (KN w0) Tryz.prog A2 zx9:=fun t=>⟨e_fbv h2,b_con (pan:=false) (zai st v3 v4 e3 e4),e_bin (za rfl) ze (za rfl) (r_cmp (LO e5)),T1 _⟩
  have r0:r=v5:=by
   have q0:=eq_of_beq (e1.trans h2)
   first | (rw [← hr];unfold nthB;rw [if_pos q0];rw [e3,← e5];first | done | rfl | (rw [Bool.eq_iff_iff];simp)) | (rw [← hs];unfold callS;rw [if_pos q0];exact e4)
  have r1:st2=v4:=by
   have q0:=eq_of_beq (e1.trans h2)
   first | (rw [← hr];unfold nthB;rw [if_pos q0];rw [e3,← e5];first | done | rfl | (rw [Bool.eq_iff_iff];simp)) | (rw [← hs];unfold callS;rw [if_pos q0];exact e4)
  rw [r0,r1];exact con_b (pan:=false) (zr (F:=FL (A2 []) []) (C:=zx9) (k:=⟨27,[.o (.c (.p 900 0)),yh 2],[.bx 900 62 [.h 0,.h 1]],yh 7,[.bx 900 62 [.h 5,.h 6]]⟩) 0 (zg (f2 [] trivial)) (T2 []) mixed (by kernel_rfl))
 | false =>
  obtain ⟨v3,e3⟩:=LX ((c == (1:Int)))
  let A3:=fun t=>A1 (pB v3::t)
  have f3:LA (KN w0) A3:=fun t h=>f1 _ ⟨zc,h⟩
  have T3:LT (KN w0) Tryz.prog A3 zw3:=fun t=>⟨e_fbv h2,e_bin (za rfl) ze (za rfl) (r_cmp (LO e3)),T1 _⟩
  cases h4:v3 with
  | true =>
   obtain ⟨v5,e5⟩:=LX ((rdT st).1)
   obtain ⟨v6,e6⟩:=LX ((rdT st).2)
   obtain ⟨v7,e7⟩:=LX (((v5:List UInt8) == []))
   let A4:=fun t=>A3 (pS v5::pS (lfO v6)::pB (bdO v6)::pB v7::t)
   have f4:LA (KN w0) A4:=fun t h=>f3 _ ⟨zc,zc,zc,zc,h⟩
   have T4:LT (KN w0) Tryz.prog A4 zya:=fun t=>⟨e_fbv h4,b_con (pan:=false) (zdp st v5 v6 e5 e6),e_bin (za rfl) ze (za rfl) (fun W X Y=>by rw [← e7];exact r_seq W X Y),T3 _⟩
   have r0:r=v7:=by
    have q0:=ne_of_beq_false (e1.trans h2)
    have q1:=eq_of_beq (e3.trans h4)
    first | (rw [← hr];unfold nthB;rw [if_neg q0,if_pos q1];rw [e5,← e7];first | done | rfl | (rw [Bool.eq_iff_iff];simp)) | (rw [← hs];unfold callS;rw [if_neg q0,if_pos q1];exact e6)
   have r1:st2=v6:=by
    have q0:=ne_of_beq_false (e1.trans h2)
    have q1:=eq_of_beq (e3.trans h4)
    first | (rw [← hr];unfold nthB;rw [if_neg q0,if_pos q1];rw [e5,← e7];first | done | rfl | (rw [Bool.eq_iff_iff];simp)) | (rw [← hs];unfold callS;rw [if_neg q0,if_pos q1];exact e6)
   rw [r0,r1];exact con_b (pan:=false) (zr (F:=FL (A4 []) []) (C:=zya) (k:=⟨27,[.o (.c (.p 900 0)),yh 2],[.bx 900 62 [.h 0,.h 1]],yh 8,[.bx 900 62 [.h 6,.h 7]]⟩) 0 (zg (f4 [] trivial)) (T4 []) mixed (by kernel_rfl))
  | false =>
   obtain ⟨v5,e5⟩:=LX ((c == (2:Int)))
   let A5:=fun t=>A3 (pB v5::t)
   have f5:LA (KN w0) A5:=fun t h=>f3 _ ⟨zc,h⟩
   have T5:LT (KN w0) Tryz.prog A5 zw4:=fun t=>⟨e_fbv h4,e_bin (za rfl) ze (za rfl) (r_cmp (LO e5)),T3 _⟩
   cases h6:v5 with
   | true =>
    obtain ⟨v7,e7⟩:=LX ((rdL rdI st).1)
    obtain ⟨v8,e8⟩:=LX ((rdL rdI st).2)
    have s9:leftN (rdC st).2≤1000000:=by exact Nat.le_trans (zcx st) hle
    obtain ⟨v10,e10⟩:=LX ((v7.length:Int))
    obtain ⟨v11,e11⟩:=LX ((v10 == (0:Int)))
    let A6:=fun t=>A5 (pLs cI v7::pS (lfO v8)::pB (bdO v8)::pI v10::pB v11::t)
    have f6:LA (KN w0) A6:=fun t h=>f5 _ ⟨(zi zl),zc,zc,zc,zc,h⟩
    have T6:LT (KN w0) Tryz.prog A6 zyb:=fun t=>⟨e_fbv h6,b_con (pan:=false) (zhz st v7 v8 e7 e8 s9),zH (E:=3) (by kernel_rfl) (zd rfl) (za (by rw [e10];rfl)),e_bin (za rfl) ze (za rfl) (r_cmp (LO e11)),T5 _⟩
    have r0:r=v11:=by
     have q0:=ne_of_beq_false (e1.trans h2)
     have q1:=ne_of_beq_false (e3.trans h4)
     have q2:=eq_of_beq (e5.trans h6)
     first | (rw [← hr];unfold nthB;rw [if_neg q0,if_neg q1,if_pos q2];rw [e7,← e11,← e10];first | done | rfl | (rw [Bool.eq_iff_iff];simp)) | (rw [← hs];unfold callS;rw [if_neg q0,if_neg q1,if_pos q2];exact e8)
    have r1:st2=v8:=by
     have q0:=ne_of_beq_false (e1.trans h2)
     have q1:=ne_of_beq_false (e3.trans h4)
     have q2:=eq_of_beq (e5.trans h6)
     first | (rw [← hr];unfold nthB;rw [if_neg q0,if_neg q1,if_pos q2];rw [e7,← e11,← e10];first | done | rfl | (rw [Bool.eq_iff_iff];simp)) | (rw [← hs];unfold callS;rw [if_neg q0,if_neg q1,if_pos q2];exact e8)
    rw [r0,r1];exact con_b (pan:=false) (zr (F:=FL (A6 []) []) (C:=zyb) (k:=⟨27,[.o (.c (.p 900 0)),yh 2],[.bx 900 62 [.h 0,.h 1]],yh 10,[.bx 900 62 [.h 7,.h 8]]⟩) 0 (zg (f6 [] trivial)) (T6 []) mixed (by kernel_rfl))
   | false =>
    obtain ⟨v7,e7⟩:=LX ((c == (3:Int)))
    let A7:=fun t=>A5 (pB v7::t)
    have f7:LA (KN w0) A7:=fun t h=>f5 _ ⟨zc,h⟩
    have T7:LT (KN w0) Tryz.prog A7 zw5:=fun t=>⟨e_fbv h6,e_bin (za rfl) ze (za rfl) (r_cmp (LO e7)),T5 _⟩
    cases h8:v7 with
    | true =>
     obtain ⟨v9,e9⟩:=LX ((rdV st).1)
     obtain ⟨v10,e10⟩:=LX ((rdV st).2)
     obtain ⟨v11,e11⟩:=LX (decide (v9=((0:Int),(0:Int),(0:Int))))
     let A8:=fun t=>A7 (pI v9.1::pI v9.2.1::pI v9.2.2::pS (lfO v10)::pB (bdO v10)::pB v11::t)
     have f8:LA (KN w0) A8:=fun t h=>f7 _ ⟨zc,zc,zc,zc,zc,zc,h⟩
     have T8:LT (KN w0) Tryz.prog A8 zyc:=fun t=>⟨e_fbv h8,b_con (pan:=false) (zk1 st v9 v10 e9 e10),e_eqV (x:=v9) (y:=((0:Int),(0:Int),(0:Int))) (neg:=false) ⟨(za rfl),(za rfl),(za rfl),trivial⟩ ⟨ze,ze,ze,trivial⟩ (za (by rw [e11];rfl)),T7 _⟩
     have r0:r=v11:=by
      have q0:=ne_of_beq_false (e1.trans h2)
      have q1:=ne_of_beq_false (e3.trans h4)
      have q2:=ne_of_beq_false (e5.trans h6)
      have q3:=eq_of_beq (e7.trans h8)
      first | (rw [← hr];unfold nthB;rw [if_neg q0,if_neg q1,if_neg q2,if_pos q3];rw [e9,← e11];first | done | rfl | (rw [Bool.eq_iff_iff];simp)) | (rw [← hs];unfold callS;rw [if_neg q0,if_neg q1,if_neg q2,if_pos q3];exact e10)
     have r1:st2=v10:=by
      have q0:=ne_of_beq_false (e1.trans h2)
      have q1:=ne_of_beq_false (e3.trans h4)
      have q2:=ne_of_beq_false (e5.trans h6)
      have q3:=eq_of_beq (e7.trans h8)
      first | (rw [← hr];unfold nthB;rw [if_neg q0,if_neg q1,if_neg q2,if_pos q3];rw [e9,← e11];first | done | rfl | (rw [Bool.eq_iff_iff];simp)) | (rw [← hs];unfold callS;rw [if_neg q0,if_neg q1,if_neg q2,if_pos q3];exact e10)
     rw [r0,r1];exact con_b (pan:=false) (zr (F:=FL (A8 []) []) (C:=zyc) (k:=⟨27,[.o (.c (.p 900 0)),yh 2],[.bx 900 62 [.h 0,.h 1]],yh 12,[.bx 900 62 [.h 10,.h 11]]⟩) 0 (zg (f8 [] trivial)) (T8 []) mixed (by kernel_rfl))
    | false =>
     obtain ⟨v9,e9⟩:=LX ((c == (4:Int)))
     let A9:=fun t=>A7 (pB v9::t)
     have f9:LA (KN w0) A9:=fun t h=>f7 _ ⟨zc,h⟩
     have T9:LT (KN w0) Tryz.prog A9 zw6:=fun t=>⟨e_fbv h8,e_bin (za rfl) ze (za rfl) (r_cmp (LO e9)),T7 _⟩
     cases h10:v9 with
     | true =>
      obtain ⟨v11,e11⟩:=LX ((rdL rdP st).1)
      obtain ⟨v12,e12⟩:=LX ((rdL rdP st).2)
      have s13:leftN (rdC st).2≤1000000:=by exact Nat.le_trans (zcx st) hle
      obtain ⟨v14,e14⟩:=LX ((v11.length:Int))
      obtain ⟨v15,e15⟩:=LX ((v14 == (0:Int)))
      let A10:=fun t=>A9 (pLs cPl v11::pS (lfO v12)::pB (bdO v12)::pI v14::pB v15::t)
      have f10:LA (KN w0) A10:=fun t h=>f9 _ ⟨(zi zo),zc,zc,zc,zc,h⟩
      have T10:LT (KN w0) Tryz.prog A10 zxI:=fun t=>⟨e_fbv h10,b_con (pan:=false) (zmf st v11 v12 e11 e12 s13),zH (E:=69) (by kernel_rfl) (zd rfl) (za (by rw [e14];rfl)),e_bin (za rfl) ze (za rfl) (r_cmp (LO e15)),T9 _⟩
      have r0:r=v15:=by
       have q0:=ne_of_beq_false (e1.trans h2)
       have q1:=ne_of_beq_false (e3.trans h4)
       have q2:=ne_of_beq_false (e5.trans h6)
       have q3:=ne_of_beq_false (e7.trans h8)
       have q4:=eq_of_beq (e9.trans h10)
       first | (rw [← hr];unfold nthB;rw [if_neg q0,if_neg q1,if_neg q2,if_neg q3,if_pos q4];rw [e11,← e15,← e14];first | done | rfl | (rw [Bool.eq_iff_iff];simp)) | (rw [← hs];unfold callS;rw [if_neg q0,if_neg q1,if_neg q2,if_neg q3,if_pos q4];exact e12)
      have r1:st2=v12:=by
       have q0:=ne_of_beq_false (e1.trans h2)
       have q1:=ne_of_beq_false (e3.trans h4)
       have q2:=ne_of_beq_false (e5.trans h6)
       have q3:=ne_of_beq_false (e7.trans h8)
       have q4:=eq_of_beq (e9.trans h10)
       first | (rw [← hr];unfold nthB;rw [if_neg q0,if_neg q1,if_neg q2,if_neg q3,if_pos q4];rw [e11,← e15,← e14];first | done | rfl | (rw [Bool.eq_iff_iff];simp)) | (rw [← hs];unfold callS;rw [if_neg q0,if_neg q1,if_neg q2,if_neg q3,if_pos q4];exact e12)
      rw [r0,r1];exact con_b (pan:=false) (zr (F:=FL (A10 []) []) (C:=zxI) (k:=⟨27,[.o (.c (.p 900 0)),yh 2],[.bx 900 62 [.h 0,.h 1]],yh 12,[.bx 900 62 [.h 9,.h 10]]⟩) 0 (zg (f10 [] trivial)) (T10 []) mixed (by kernel_rfl))
     | false =>
      obtain ⟨v11,e11⟩:=LX ((rdR st).1)
      obtain ⟨v12,e12⟩:=LX ((rdR st).2)
      have s13:(rdT st).1.length<4294967281:=by exact Nat.lt_of_le_of_lt (Nat.le_trans (zpp st) hle) (by decide)
      obtain ⟨v14,e14⟩:=LX (decide (v11=(rq none)))
      let A11:=fun t=>A9 (pB v11.1.1::pD v11.1.2::pB v11.2.1::pD v11.2.2::pS (lfO v12)::pB (bdO v12)::pB v14::t)
      have f11:LA (KN w0) A11:=fun t h=>f9 _ ⟨zc,zm,zc,zm,zc,zc,zc,h⟩
      have T11:LT (KN w0) Tryz.prog A11 zxJ:=fun t=>⟨e_fbv h10,b_con (pan:=false) (ziV hM hTS st v11 v12 e11 e12 s13),zh (Fun.imp (as2:=[.o (.g [pB v11.1.1,pD v11.1.2,pB v11.2.1,pD v11.2.2]),.o (.g [pV (.bool false),pV (.slice none 0 0),pV (.bool false),pV (.slice none 0 0)])]) (zsO v11 (rq none) v14 e14) (zku ⟨fun _ _ _ h=>h,fun _ _ _ h=>zqv h,trivial⟩) (fun _ _ _ h=>h)),T9 _⟩
      have r0:r=v14:=by
       have q0:=ne_of_beq_false (e1.trans h2)
       have q1:=ne_of_beq_false (e3.trans h4)
       have q2:=ne_of_beq_false (e5.trans h6)
       have q3:=ne_of_beq_false (e7.trans h8)
       have q4:=ne_of_beq_false (e9.trans h10)
       first | (rw [← hr];unfold nthB;rw [if_neg q0,if_neg q1,if_neg q2,if_neg q3,if_neg q4];rw [e11,← e14];first | done | rfl | (rw [Bool.eq_iff_iff];simp)) | (rw [← hs];unfold callS;rw [if_neg q0,if_neg q1,if_neg q2,if_neg q3,if_neg q4];exact e12)
      have r1:st2=v12:=by
       have q0:=ne_of_beq_false (e1.trans h2)
       have q1:=ne_of_beq_false (e3.trans h4)
       have q2:=ne_of_beq_false (e5.trans h6)
       have q3:=ne_of_beq_false (e7.trans h8)
       have q4:=ne_of_beq_false (e9.trans h10)
       first | (rw [← hr];unfold nthB;rw [if_neg q0,if_neg q1,if_neg q2,if_neg q3,if_neg q4];rw [e11,← e14];first | done | rfl | (rw [Bool.eq_iff_iff];simp)) | (rw [← hs];unfold callS;rw [if_neg q0,if_neg q1,if_neg q2,if_neg q3,if_neg q4];exact e12)
      rw [r0,r1];exact con_b (pan:=false) (zr (F:=FL (A11 []) []) (C:=zxJ) (k:=⟨27,[.o (.c (.p 900 0)),yh 2],[.bx 900 62 [.h 0,.h 1]],yh 14,[.bx 900 62 [.h 12,.h 13]]⟩) 0 (zg (f11 [] trivial)) (T11 []) mixed (by kernel_rfl))
def malB (s:List UInt8) (c:Int):Bool:=nthB c (some s) && bdO (callS c (some s)) && decide (leftN (callS c (some s))=0)
abbrev zwI:List (Nat×Ent):=(1000002,.neu 18 [yh 0] 62 [.h 2,.h 3])::(1000005,.bin .neq 45 (LF (.p 2 0)) (LF (.k (.pointer none))) (LF (.k (.bool true))))::(1000008,.call ⟨23,[.o (.c (.p 2 0))],[.bx 2 62 [.h 2,.h 3]],yh 4,[.bx 2 62 [.h 2,.h 3]]⟩)::(1000009,.un .not (yh 4) (yh 5))::[]
abbrev zwJ:List (Nat×Ent):=(10005,.fb 5 true)::(1000014,.call ⟨27,[.o (.c (.p 2 0)),yh 1],[.bx 2 62 [.h 2,.h 3]],yh 6,[.bx 2 62 [.h 7,.h 8]]⟩)::zwI
abbrev zwK:List (Nat×Ent):=(10006,.fb 6 true)::(1000018,.call ⟨23,[.o (.c (.p 2 0))],[.bx 2 62 [.h 7,.h 8]],yh 9,[.bx 2 62 [.h 7,.h 8]]⟩)::zwJ
abbrev zxw:List (Nat×Ent):=(10009,.fb 9 true)::(1000022,.call ⟨21,[.o (.c (.p 2 0))],[.bx 2 62 [.h 7,.h 8]],yh 10,[.bx 2 62 [.h 7,.h 8]]⟩)::(1000023,.bin .eql 3 (yh 10) (LF (.k (.int .i64 0))) (yh 11))::zwK
abbrev zxx:List (Nat×Ent):=(10009,.fb 9 false)::zwK
abbrev zxy:List (Nat×Ent):=(10006,.fb 6 false)::zwJ
abbrev zxz:List (Nat×Ent):=(10005,.fb 5 false)::zwI
theorem za8 {w0:World} (hM:LM w0) (hTS:LS w0) (s:List UInt8) (c:Int) (r:Bool) (hr:malB s c=r) (hle:s.length≤1000000):Fun (KN w0) Tryz.prog 29 [.o (.c (pS s)),.o (.c (pI c))] (.o (.c (pB r))):=by
 obtain ⟨v1,e1⟩:=LX (some s)
 obtain ⟨v2,e2⟩:=LX (bdO v1)
 obtain ⟨v3,e3⟩:=LX (!v2)
 let A1:List Pred→List Pred:=fun t=>pS s::pI c::pS (lfO v1)::pB (bdO v1)::pB v2::pB v3::t
 have f1:LA (KN w0) A1:=fun t h=>⟨zc,zc,zc,zc,zc,zc,h⟩
 have T1:LT (KN w0) Tryz.prog A1 zwI:=fun t=>⟨zbS (zgi s v1 e1) rfl rfl rfl rfl,zbu (by kernel_rfl),b_con (pan:=false) (w_bad v1 v2 e2),e_un (za rfl) (za rfl) (fun W=>by rw [← e3];exact r_not W),trivial⟩
 cases h4:v3 with
 | true =>
  obtain ⟨v5,e5⟩:=LX (nthB c v1)
  obtain ⟨v6,e6⟩:=LX (callS c v1)
  have s7:leftN v1≤1000000:=by (rw [← e1];exact hle)
  let A2:=fun t=>A1 (pB v5::pS (lfO v6)::pB (bdO v6)::t)
  have f2:LA (KN w0) A2:=fun t h=>f1 _ ⟨zc,zc,zc,h⟩
  have T2:LT (KN w0) Tryz.prog A2 zwJ:=fun t=>⟨e_fbv h4,b_con (pan:=false) (ze7 hM hTS c v1 v5 v6 e5 e6 s7),T1 _⟩
  cases h8:v5 with
  | true =>
   obtain ⟨v9,e9⟩:=LX (bdO v6)
   let A3:=fun t=>A2 (pB v9::t)
   have f3:LA (KN w0) A3:=fun t h=>f2 _ ⟨zc,h⟩
   have T3:LT (KN w0) Tryz.prog A3 zwK:=fun t=>⟨e_fbv h8,b_con (pan:=false) (w_bad v6 v9 e9),T2 _⟩
   cases h10:v9 with
   | true =>
    obtain ⟨v11,e11⟩:=LX ((leftN v6:Int))
    obtain ⟨v12,e12⟩:=LX ((v11 == (0:Int)))
    let A4:=fun t=>A3 (pI v11::pB v12::t)
    have f4:LA (KN w0) A4:=fun t h=>f3 _ ⟨zc,zc,h⟩
    have T4:LT (KN w0) Tryz.prog A4 zxw:=fun t=>⟨e_fbv h10,b_con (pan:=false) (ze6 v6 v11 e11),e_bin (za rfl) ze (za rfl) (r_cmp (LO e12)),T3 _⟩
    refine Fun.fin (r:=.o (.c (pB v12))) (zq (zr (F:=FL (A4 []) []) (C:=zxw) (k:=⟨29,[yh 0,yh 1],[],yh 11,[]⟩) 0 (zg (f4 [] trivial)) (T4 []) mixed (by kernel_rfl))) (fun v W D h=>?_)
    have r0:r=v12:=by
     rw [← hr];unfold malB
     rw [e1,e5,h8,e6,e9,h10,← e12,← e11,Bool.true_and,Bool.true_and,Bool.eq_iff_iff]
     simp
    rw [r0];exact h
   | false =>
    have T5:LT (KN w0) Tryz.prog A3 zxx:=fun t=>⟨e_fbv h10,T3 _⟩
    refine Fun.fin (r:=.o (.c (pV (.bool false)))) (zq (zr (F:=FL (A3 []) []) (C:=zxx) (k:=⟨29,[yh 0,yh 1],[],.o (.c (.k (.bool false))),[]⟩) 0 (zg (f3 [] trivial)) (T5 []) mixed (by kernel_rfl))) (fun v W D h=>?_)
    have r0:r=false:=by
     rw [← hr];unfold malB
     rw [e1,e5,h8,e6,e9,h10];rfl
    rw [r0];exact h
  | false =>
   have T6:LT (KN w0) Tryz.prog A2 zxy:=fun t=>⟨e_fbv h8,T2 _⟩
   refine Fun.fin (r:=.o (.c (pV (.bool false)))) (zq (zr (F:=FL (A2 []) []) (C:=zxy) (k:=⟨29,[yh 0,yh 1],[],.o (.c (.k (.bool false))),[]⟩) 0 (zg (f2 [] trivial)) (T6 []) mixed (by kernel_rfl))) (fun v W D h=>?_)
   have r0:r=false:=by
    rw [← hr];unfold malB
    rw [e1,e5,h8];rfl
   rw [r0];exact h
 | false =>
  have T7:LT (KN w0) Tryz.prog A1 zxz:=fun t=>⟨e_fbv h4,T1 _⟩
  refine Fun.fin (r:=.o (.c (pV (.bool false)))) (zq (zr (F:=FL (A1 []) []) (C:=zxz) (k:=⟨29,[yh 0,yh 1],[],.o (.c (.k (.bool false))),[]⟩) 0 (zg (f1 [] trivial)) (T7 []) mixed (by kernel_rfl))) (fun v W D h=>?_)
  have r0:r=false:=by
   exfalso;rw [← e3,← e2,← e1] at h4;cases h4
  rw [r0];exact h
abbrev zyH:List (Nat×Ent):=(1000002,.call ⟨65,[yh 0],[],.o (.g [.h 2,.h 3]),[]⟩)::(1000004,.call ⟨65,[yh 1],[],.o (.g [.h 4,.h 5]),[]⟩)::[]
theorem zme {w0:World} (n d:Int) (r:RR) (hr:(nz n,nz d)=r) (hn:InI n) (hd:InI d):Fun (KN w0) Tryz.prog 34 [.o (.c (pI n)),.o (.c (pI d))] (.o (.g [pB r.1.1,pD r.1.2,pB r.2.1,pD r.2.2])):=by
 obtain ⟨v1,e1⟩:=LX (nz n)
 have s2:-9223372036854775808≤n:=by (first | exact hn.1 | exact hn.2 | exact hd.1 | exact hd.2)
 have s3:n<9223372036854775808:=by (first | exact hn.1 | exact hn.2 | exact hd.1 | exact hd.2)
 obtain ⟨v4,e4⟩:=LX (nz d)
 have s5:-9223372036854775808≤d:=by (first | exact hn.1 | exact hn.2 | exact hd.1 | exact hd.2)
 have s6:d<9223372036854775808:=by (first | exact hn.1 | exact hn.2 | exact hd.1 | exact hd.2)
 let A1:List Pred→List Pred:=fun t=>pI n::pI d::pB v1.1::pD v1.2::pB v4.1::pD v4.2::t
 have f1:LA (KN w0) A1:=fun t h=>⟨zc,zc,zc,zm,zc,zm,h⟩
 have T1:LT (KN w0) Tryz.prog A1 zyH:=fun t=>⟨zh (zoD n v1 e1 s2 s3),zh (zoD d v4 e4 s5 s6),trivial⟩
 refine Fun.fin (r:=.o (.g [pB v1.1,pD v1.2,pB v4.1,pD v4.2])) (zq (zr (F:=FL (A1 []) []) (C:=zyH) (k:=⟨34,[yh 0,yh 1],[],.o (.g [.h 2,.h 3,.h 4,.h 5]),[]⟩) 0 (zg (f1 [] trivial)) (T1 []) mixed (by kernel_rfl))) (fun v W D h=>?_)
 have r0:r=(v1,v4):=by
  rw [← hr,e1,e4]
 rw [r0];exact h
end Go.Proofs.YtjcegdldgjphiaaGreatDoor
namespace Go.Proofs.YtjcegdldgjphiaaGreatDoor
open Go.RowKit Go.Shelf
theorem znQ {w0:World} (hM:LM w0) (hTS:LS w0) (v1:(List UInt8)) (v3:Bool) (v5:(List UInt8)) (v7:Bool) (v9:(List UInt8)) (v11:Bool) (v13:(List UInt8)) (v15:Bool) (v17:(List UInt8)) (v19:Bool) (v21:(List UInt8)) (v23:Bool) (v25:(List Int)) (v26:(List UInt8)) (v29:Bool) (v30:(List UInt8)) (v32:Bool) (v34:(List Pl)) (v35:(List UInt8)) (v38:Bool) (v40:(List UInt8)) (v43:Bool) (v45:RR) (v48:(List UInt8)) (v50:Bool) (v52:RR) (v55:(List UInt8)) (v57:Bool) (v58:St) (v59:(List Int)) (v60:St) (v62:Int) (v63:Int) (v64:St) (v65:(List Int)) (v66:Bool) (v69:Bool) (v71:Bool) (v73:Int) (v74:Bool) (v76:Bool) (v77:Bool) (v79:Int) (v80:St) (v81:Bool) (v83:Bool) (v87:Bool) (v90:Bool) (v93:Bool) (v96:Bool) (v99:Bool) (e1:(encI (0:Int))=v1) (e3:(((v1:List UInt8) == [0]))=v3) (e5:(encI (-1:Int))=v5) (e7:(((v5:List UInt8) == [1]))=v7) (e9:(encI (63:Int))=v9) (e11:(((v9:List UInt8) == [126]))=v11) (e13:(encI (64:Int))=v13) (e15:(((v13:List UInt8) == [128,1]))=v15) (e17:(encI (-65:Int))=v17) (e19:(((v17:List UInt8) == [129,1]))=v19) (e21:(encT [97,98])=v21) (e23:(((v21:List UInt8) == [4,97,98]))=v23) (e25:(([(1:Int),(-2:Int)]:List Int))=v25) (e26:(encL encI v25)=v26) (e29:(((v26:List UInt8) == [4,2,3]))=v29) (e30:(encV ((1:Int),(-1:Int),(0:Int)))=v30) (e32:(((v30:List UInt8) == [2,1,0]))=v32) (e34:(([(((1:Int),(0:Int),(0:Int)),(5:Int))]:List Pl))=v34) (e35:(encL encP v34)=v35) (e38:(((v35:List UInt8) == [2,2,0,0,10]))=v38) (e40:(encL encP ([]:List Pl))=v40) (e43:(((v40:List UInt8) == [0]))=v43) (e45:((nz (-1:Int),nz (2:Int)))=v45) (e48:(encRS v45)=v48) (e50:(((v48:List UInt8) == [8,45,49,47,50]))=v50) (e52:((nz (2:Int),nz (4:Int)))=v52) (e55:(encRS v52)=v55) (e57:(((v55:List UInt8) == []))=v57) (e58:(some [4,2,3,6])=v58) (e59:((rdL rdI v58).1)=v59) (e60:((rdL rdI v58).2)=v60) (e62:((leftN v60:Int))=v62) (e63:((rdI v60).1)=v63) (e64:((rdI v60).2)=v64) (e65:(([(1:Int),(-2:Int)]:List Int))=v65) (e66:(decide (v59=v65))=v66) (e69:((v62 == (1:Int)))=v69) (e71:((v63 == (3:Int)))=v71) (e73:((leftN v64:Int))=v73) (e74:((v73 == (0:Int)))=v74) (e76:(bdO v64)=v76) (e77:(!v76)=v77) (e79:((rdI v64).1)=v79) (e80:((rdI v64).2)=v80) (e81:((v79 == (0:Int)))=v81) (e83:(bdO v80)=v83) (e87:(malB [128,0] (0:Int))=v87) (e90:(malB [6,50,47,52] (5:Int))=v90) (e93:(malB [128] (0:Int))=v93) (e96:(malB [6,97] (1:Int))=v96) (e99:(malB [2,2,0] (4:Int))=v99) (s2:InI (0:Int)) (h4:v3=true) (s6:InI (-1:Int)) (h8:v7=true) (s10:InI (63:Int)) (h12:v11=true) (s14:InI (64:Int)) (h16:v15=true) (s18:InI (-65:Int)) (h20:v19=true) (s22:TxW [97,98]) (h24:v23=true) (s27:∀x∈v25,InI x) (s28:v25.length≤1000000) (s31:InV ((1:Int),(-1:Int),(0:Int))) (h33:v32=true) (s36:∀x∈v34,InP x) (s37:v34.length≤1000000) (h39:v38=true) (s41:∀x∈([]:List Pl),InP x) (s42:([]:List Pl).length≤1000000) (h44:v43=true) (s46:InI (-1:Int)) (s47:InI (2:Int)) (s49:TxW (textR v45)) (h51:v50=true) (s53:InI (2:Int)) (s54:InI (4:Int)) (s56:TxW (textR v52)) (s61:leftN (rdC v58).2≤1000000) (s67:v59.length<9223372036854775808) (h68:v66=true) (h70:v69=true) (h72:v71=true) (h75:v74=true) (h78:v77=true) (h82:v81=true) (h84:v29=true) (h85:v57=true) (h86:v83=true) (s88:([128,0]:List UInt8).length≤1000000) (h89:v87=true) (s91:([6,50,47,52]:List UInt8).length≤1000000) (h92:v90=true) (s94:([128]:List UInt8).length≤1000000) (h95:v93=true) (s97:([6,97]:List UInt8).length≤1000000) (h98:v96=true) (s100:([2,2,0]:List UInt8).length≤1000000):Fun (KN w0) Tryz.prog 9 [] (.o (.c (pB v99))):=
 zq (zr (F:=FL (pS v1::pB v3::pS v5::pB v7::pS v9::pB v11::pS v13::pB v15::pS v17::pB v19::pS v21::pB v23::pLs cI v25::pS v26::pB v29::pS v30::pB v32::pLs cPl v34::pS v35::pB v38::pS v40::pB v43::pB v45.1.1::pD v45.1.2::pB v45.2.1::pD v45.2.2::pS v48::pB v50::pB v52.1.1::pD v52.1.2::pB v52.2.1::pD v52.2.2::pS v55::pB v57::pS (lfO v58)::pB (bdO v58)::pLs cI v59::pS (lfO v60)::pB (bdO v60)::pI v62::pI v63::pS (lfO v64)::pB (bdO v64)::pLs cI v65::pB v66::pB v69::pB v71::pI v73::pB v74::pB v76::pB v77::pI v79::pS (lfO v80)::pB (bdO v80)::pB v81::pB v83::pB v87::pB v90::pB v93::pB v96::pB v99::[]) []) (C:=((1000001,.call ⟨12,[.o (.c (.k (.int .i64 0)))],[],yh 0,[]⟩) ::
  (1000002,.bin .eql 9 (yh 0) (LF (.k (.string ⟨#[0]⟩))) (yh 1)) ::
  (10001,.fb 1 true) ::
  (1000004,.call ⟨12,[.o (.c (.k (.int .i64 (-1))))],[],yh 2,[]⟩) ::
  (1000005,.bin .eql 9 (yh 2) (LF (.k (.string ⟨#[1]⟩))) (yh 3)) ::
  (10003,.fb 3 true) ::
  (1000008,.call ⟨12,[.o (.c (.k (.int .i64 63)))],[],yh 4,[]⟩) ::
  (1000009,.bin .eql 9 (yh 4) (LF (.k (.string ⟨#[126]⟩))) (yh 5)) ::
  (10005,.fb 5 true) ::
  (1000012,.call ⟨12,[.o (.c (.k (.int .i64 64)))],[],yh 6,[]⟩) ::
  (1000013,.bin .eql 9 (yh 6) (LF (.k (.string ⟨#[128,1]⟩))) (yh 7)) ::
  (10007,.fb 7 true) ::
  (1000016,.call ⟨12,[.o (.c (.k (.int .i64 (-65))))],[],yh 8,[]⟩) ::
  (1000017,.bin .eql 9 (yh 8) (LF (.k (.string ⟨#[129,1]⟩))) (yh 9)) ::
  (10009,.fb 9 true) ::
  (1000020,.call ⟨30,[.o (.c (.k (.string ⟨#[97,98]⟩)))],[],yh 10,[]⟩) ::
  (1000021,.bin .eql 9 (yh 10) (LF (.k (.string ⟨#[4,97,98]⟩))) (yh 11)) ::
  (10011,.fb 11 true) ::
  (1000024,.dat 3 2 [.k (.int .i64 1),.k (.int .i64 (-2))] 12) ::
  (1000025,.call ⟨31,[yh 12],[],yh 13,[]⟩) ::
  (1000026,.bin .eql 9 (yh 13) (LF (.k (.string ⟨#[4,2,3]⟩))) (yh 14)) ::
  (1000030,.call ⟨32,[.o (.g [.k (.int .i64 1),.k (.int .i64 (-1)),.k (.int .i64 0)])],[],yh 15,[]⟩) ::
  (1000031,.bin .eql 9 (yh 15) (LF (.k (.string ⟨#[2,1,0]⟩))) (yh 16)) ::
  (10016,.fb 16 true) ::
  (1000035,.dat 69 1 [.k (.int .i64 1),.k (.int .i64 0),.k (.int .i64 0),.k (.int .i64 5)] 17) ::
  (1000036,.call ⟨33,[yh 17],[],yh 18,[]⟩) ::
  (1000037,.bin .eql 9 (yh 18) (LF (.k (.string ⟨#[2,2,0,0,10]⟩))) (yh 19)) ::
  (10019,.fb 19 true) ::
  (1000040,.call ⟨33,[.o (.c (.k (.slice none 0 0)))],[],yh 20,[]⟩) ::
  (1000041,.bin .eql 9 (yh 20) (LF (.k (.string ⟨#[0]⟩))) (yh 21)) ::
  (10021,.fb 21 true) ::
  (1000044,.call ⟨34,[.o (.c (.k (.int .i64 (-1)))),.o (.c (.k (.int .i64 2)))],[],.o (.g [.h 22,.h 23,.h 24,.h 25]),[]⟩) ::
  (1000045,.call ⟨16,[.o (.g [.h 22,.h 23,.h 24,.h 25])],[],yh 26,[]⟩) ::
  (1000046,.bin .eql 9 (yh 26) (LF (.k (.string ⟨#[8,45,49,47,50]⟩))) (yh 27)) ::
  (10027,.fb 27 true) ::
  (1000049,.call ⟨34,[.o (.c (.k (.int .i64 2))),.o (.c (.k (.int .i64 4)))],[],.o (.g [.h 28,.h 29,.h 30,.h 31]),[]⟩) ::
  (1000050,.call ⟨16,[.o (.g [.h 28,.h 29,.h 30,.h 31])],[],yh 32,[]⟩) ::
  (1000051,.bin .eql 9 (yh 32) (LF (.k (.string ⟨#[]⟩))) (yh 33)) ::
  (1000054,.neu 18 [.o (.c (.k (.string ⟨#[4,2,3,6]⟩)))] 62 [.h 34,.h 35]) ::
  (1000057,.bin .eql 45 (LF (.p 54 0)) (LF (.k (.pointer none))) (LF (.k (.bool false)))) ::
  (1000059,.call ⟨35,[.o (.c (.p 54 0))],[.bx 54 62 [.h 34,.h 35]],yh 36,[.bx 54 62 [.h 37,.h 38]]⟩) ::
  (1000062,.call ⟨21,[.o (.c (.p 54 0))],[.bx 54 62 [.h 37,.h 38]],yh 39,[.bx 54 62 [.h 37,.h 38]]⟩) ::
  (1000065,.call ⟨36,[.o (.c (.p 54 0))],[.bx 54 62 [.h 37,.h 38]],yh 40,[.bx 54 62 [.h 41,.h 42]]⟩) ::
  (1000068,.dat 3 2 [.k (.int .i64 1),.k (.int .i64 (-2))] 43) ::
  (1000069,.call ⟨37,[yh 36,yh 43],[],yh 44,[]⟩) ::
  (10044,.fb 44 true) ::
  (1000072,.bin .eql 3 (yh 39) (LF (.k (.int .i64 1))) (yh 45)) ::
  (10045,.fb 45 true) ::
  (1000076,.bin .eql 3 (yh 40) (LF (.k (.int .i64 3))) (yh 46)) ::
  (10046,.fb 46 true) ::
  (1000080,.call ⟨21,[.o (.c (.p 54 0))],[.bx 54 62 [.h 41,.h 42]],yh 47,[.bx 54 62 [.h 41,.h 42]]⟩) ::
  (1000081,.bin .eql 3 (yh 47) (LF (.k (.int .i64 0))) (yh 48)) ::
  (10048,.fb 48 true) ::
  (1000085,.call ⟨23,[.o (.c (.p 54 0))],[.bx 54 62 [.h 41,.h 42]],yh 49,[.bx 54 62 [.h 41,.h 42]]⟩) ::
  (1000086,.un .not (yh 49) (yh 50)) ::
  (10050,.fb 50 true) ::
  (1000090,.call ⟨36,[.o (.c (.p 54 0))],[.bx 54 62 [.h 41,.h 42]],yh 51,[.bx 54 62 [.h 52,.h 53]]⟩) ::
  (1000091,.bin .eql 3 (yh 51) (LF (.k (.int .i64 0))) (yh 54)) ::
  (10054,.fb 54 true) ::
  (1000095,.call ⟨23,[.o (.c (.p 54 0))],[.bx 54 62 [.h 52,.h 53]],yh 55,[.bx 54 62 [.h 52,.h 53]]⟩) ::
  (10014,.fb 14 true) ::
  (10033,.fb 33 true) ::
  (10055,.fb 55 true) ::
  (1000106,.call ⟨29,[.o (.c (.k (.string ⟨#[128,0]⟩))),.o (.c (.k (.int .i64 0)))],[],yh 56,[]⟩) ::
  (10056,.fb 56 true) ::
  (1000109,.call ⟨29,[.o (.c (.k (.string ⟨#[6,50,47,52]⟩))),.o (.c (.k (.int .i64 5)))],[],yh 57,[]⟩) ::
  (10057,.fb 57 true) ::
  (1000112,.call ⟨29,[.o (.c (.k (.string ⟨#[128]⟩))),.o (.c (.k (.int .i64 0)))],[],yh 58,[]⟩) ::
  (10058,.fb 58 true) ::
  (1000115,.call ⟨29,[.o (.c (.k (.string ⟨#[6,97]⟩))),.o (.c (.k (.int .i64 1)))],[],yh 59,[]⟩) ::
  (10059,.fb 59 true) ::
  (1000118,.call ⟨29,[.o (.c (.k (.string ⟨#[2,2,0]⟩))),.o (.c (.k (.int .i64 4)))],[],yh 60,[]⟩)::[]:List (Nat×Ent))) (k:=⟨9,[],[],yh 60,[]⟩) 0 (zg ⟨zc,zc,zc,zc,zc,zc,zc,zc,zc,zc,zc,zc,(zi zl),zc,zc,zc,zc,(zi zo),zc,zc,zc,zc,zc,zm,zc,zm,zc,zc,zc,zm,zc,zm,zc,zc,zc,zc,(zi zl),zc,zc,zc,zc,zc,zc,(zi zl),zc,zc,zc,zc,zc,zc,zc,zc,zc,zc,zc,zc,zc,zc,zc,zc,zc,trivial⟩) ⟨zh (w_int (0:Int) v1 e1 s2),
  e_bin (za rfl) ze (za rfl) (fun W X Y=>by rw [← e3];exact r_seq W X Y),
  e_fbv h4,
  zh (w_int (-1:Int) v5 e5 s6),
  e_bin (za rfl) ze (za rfl) (fun W X Y=>by rw [← e7];exact r_seq W X Y),
  e_fbv h8,
  zh (w_int (63:Int) v9 e9 s10),
  e_bin (za rfl) ze (za rfl) (fun W X Y=>by rw [← e11];exact r_seq W X Y),
  e_fbv h12,
  zh (w_int (64:Int) v13 e13 s14),
  e_bin (za rfl) ze (za rfl) (fun W X Y=>by rw [← e15];exact r_seq W X Y),
  e_fbv h16,
  zh (w_int (-65:Int) v17 e17 s18),
  e_bin (za rfl) ze (za rfl) (fun W X Y=>by rw [← e19];exact r_seq W X Y),
  e_fbv h20,
  zh (zs9 [97,98] v21 e21 s22),
  e_bin (za rfl) ze (za rfl) (fun W X Y=>by rw [← e23];exact r_seq W X Y),
  e_fbv h24,
  e_dat (c:=cI) (l:=([(1:Int),(-2:Int)]:List Int)) (ps:=(pV (.int .i64 1)::pV (.int .i64 (-2))::[])) (qs:=(pI (1:Int)::pI (-2:Int)::[])) (by rw [e25];rfl) rfl rfl rfl (pimps (fun _ _ _ h=>h) <| pimps (fun _ _ _ h=>h) <| zdg) rfl,
  zh (zwf v25 v26 e26 s27 s28),
  e_bin (za rfl) ze (za rfl) (fun W X Y=>by rw [← e29];exact r_seq W X Y),
  zh (w_vec ((1:Int),(-1:Int),(0:Int)) v30 e30 s31),
  e_bin (za rfl) ze (za rfl) (fun W X Y=>by rw [← e32];exact r_seq W X Y),
  e_fbv h33,
  e_dat (c:=cPl) (l:=([(((1:Int),(0:Int),(0:Int)),(5:Int))]:List Pl)) (ps:=(pV (.int .i64 1)::pV (.int .i64 0)::pV (.int .i64 0)::pV (.int .i64 5)::[])) (qs:=(pI (((1:Int),(0:Int),(0:Int)),(5:Int)).1.1::pI (((1:Int),(0:Int),(0:Int)),(5:Int)).1.2.1::pI (((1:Int),(0:Int),(0:Int)),(5:Int)).1.2.2::pI (((1:Int),(0:Int),(0:Int)),(5:Int)).2::[])) (by rw [e34];rfl) rfl rfl rfl (pimps (fun _ _ _ h=>h) <| pimps (fun _ _ _ h=>h) <| pimps (fun _ _ _ h=>h) <| pimps (fun _ _ _ h=>h) <| zdg) rfl,
  zh (zs7 v34 v35 e35 s36 s37),
  e_bin (za rfl) ze (za rfl) (fun W X Y=>by rw [← e38];exact r_seq W X Y),
  e_fbv h39,
  zh (Fun.imp (as2:=[.o (.c (pV (.slice none 0 0)))]) (zs7 ([]:List Pl) v40 e40 s41 s42) (zku ⟨fun _ _ _ h=>zij h,trivial⟩) (fun _ _ _ h=>h)),
  e_bin (za rfl) ze (za rfl) (fun W X Y=>by rw [← e43];exact r_seq W X Y),
  e_fbv h44,
  zh (zme (-1:Int) (2:Int) v45 e45 s46 s47),
  zh (zqh hM hTS v45 v48 e48 s49),
  e_bin (za rfl) ze (za rfl) (fun W X Y=>by rw [← e50];exact r_seq W X Y),
  e_fbv h51,
  zh (zme (2:Int) (4:Int) v52 e52 s53 s54),
  zh (zqh hM hTS v52 v55 e55 s56),
  e_bin (za rfl) ze (za rfl) (fun W X Y=>by rw [← e57];exact r_seq W X Y),
  zbS (zgi [4,2,3,6] v58 e58) rfl rfl rfl rfl,
  zh9 (by kernel_rfl),
  b_con (pan:=false) (zhz v58 v59 v60 e59 e60 s61),
  b_con (pan:=false) (ze6 v60 v62 e62),
  b_con (pan:=false) (zai v60 v63 v64 e63 e64),
  e_dat (c:=cI) (l:=([(1:Int),(-2:Int)]:List Int)) (ps:=(pV (.int .i64 1)::pV (.int .i64 (-2))::[])) (qs:=(pI (1:Int)::pI (-2:Int)::[])) (by rw [e65];rfl) rfl rfl rfl (pimps (fun _ _ _ h=>h) <| pimps (fun _ _ _ h=>h) <| zdg) rfl,
  zh (zgj v59 v65 v66 e66 s67),
  e_fbv h68,
  e_bin (za rfl) ze (za rfl) (r_cmp (LO e69)),
  e_fbv h70,
  e_bin (za rfl) ze (za rfl) (r_cmp (LO e71)),
  e_fbv h72,
  b_con (pan:=false) (ze6 v64 v73 e73),
  e_bin (za rfl) ze (za rfl) (r_cmp (LO e74)),
  e_fbv h75,
  b_con (pan:=false) (w_bad v64 v76 e76),
  e_un (za rfl) (za rfl) (fun W=>by rw [← e77];exact r_not W),
  e_fbv h78,
  b_con (pan:=false) (zai v64 v79 v80 e79 e80),
  e_bin (za rfl) ze (za rfl) (r_cmp (LO e81)),
  e_fbv h82,
  b_con (pan:=false) (w_bad v80 v83 e83),
  e_fbv h84,
  e_fbv h85,
  e_fbv h86,
  zh (za8 hM hTS [128,0] (0:Int) v87 e87 s88),
  e_fbv h89,
  zh (za8 hM hTS [6,50,47,52] (5:Int) v90 e90 s91),
  e_fbv h92,
  zh (za8 hM hTS [128] (0:Int) v93 e93 s94),
  e_fbv h95,
  zh (za8 hM hTS [6,97] (1:Int) v96 e96 s97),
  e_fbv h98,
  zh (za8 hM hTS [2,2,0] (4:Int) v99 e99 s100),
  trivial⟩ mixed (by kernel_rfl))
theorem zlf  :InI (0:Int):=by exact ⟨by decide,by decide⟩
theorem zld  :((((encI (0:Int)):List UInt8) == [0]))=true:=by decide +kernel
theorem zfm  :InI (-1:Int):=by exact ⟨by decide,by decide⟩
theorem zle  :((((encI (-1:Int)):List UInt8) == [1]))=true:=by decide +kernel
theorem zju  :InI (63:Int):=by exact ⟨by decide,by decide⟩
theorem zi9  :((((encI (63:Int)):List UInt8) == [126]))=true:=by decide +kernel
theorem zjv  :InI (64:Int):=by exact ⟨by decide,by decide⟩
theorem zja  :((((encI (64:Int)):List UInt8) == [128,1]))=true:=by decide +kernel
theorem zjw  :InI (-65:Int):=by exact ⟨by decide,by decide⟩
theorem zjb  :((((encI (-65:Int)):List UInt8) == [129,1]))=true:=by decide +kernel
theorem zjx  :TxW [97,98]:=by unfold TxW;decide +kernel
theorem zjc  :((((encT [97,98]):List UInt8) == [4,97,98]))=true:=by decide +kernel
theorem zjy  :∀x∈(([(1:Int),(-2:Int)]:List Int)),InI x:=by intro x hx;simp only [List.mem_cons,List.not_mem_nil,or_false] at hx;rcases hx with rfl | rfl<;>exact ⟨by decide,by decide⟩
theorem zjz  :(([(1:Int),(-2:Int)]:List Int)).length≤1000000:=by decide +kernel
theorem zjA  :InV ((1:Int),(-1:Int),(0:Int)):=by exact ⟨⟨by decide,by decide⟩,⟨by decide,by decide⟩,⟨by decide,by decide⟩⟩
theorem zjd  :((((encV ((1:Int),(-1:Int),(0:Int))):List UInt8) == [2,1,0]))=true:=by decide +kernel
theorem zjB  :∀x∈(([(((1:Int),(0:Int),(0:Int)),(5:Int))]:List Pl)),InP x:=by intro x hx;rw [List.mem_singleton.1 hx];exact ⟨⟨⟨by decide,by decide⟩,⟨by decide,by decide⟩,⟨by decide,by decide⟩⟩,⟨by decide,by decide⟩⟩
theorem zjC  :(([(((1:Int),(0:Int),(0:Int)),(5:Int))]:List Pl)).length≤1000000:=by decide +kernel
theorem zje  :((((encL encP (([(((1:Int),(0:Int),(0:Int)),(5:Int))]:List Pl))):List UInt8) == [2,2,0,0,10]))=true:=by decide +kernel
theorem zjD  :∀x∈([]:List Pl),InP x:=by intro x hx;cases hx
theorem zjE  :([]:List Pl).length≤1000000:=by decide +kernel
theorem zjf  :((((encL encP ([]:List Pl)):List UInt8) == [0]))=true:=by decide +kernel
theorem zeg  :InI (2:Int):=by exact ⟨by decide,by decide⟩
theorem zjF  :TxW (textR ((nz (-1:Int),nz (2:Int)))):=by unfold TxW;decide +kernel
theorem zjg  :((((encRS ((nz (-1:Int),nz (2:Int)))):List UInt8) == [8,45,49,47,50]))=true:=by decide +kernel
theorem zjG  :InI (4:Int):=by exact ⟨by decide,by decide⟩
theorem zjH  :TxW (textR ((nz (2:Int),nz (4:Int)))):=by unfold TxW;decide +kernel
theorem zjI  :leftN (rdC (some [4,2,3,6])).2≤1000000:=by decide +kernel
theorem zjJ  :((rdL rdI (some [4,2,3,6])).1).length<9223372036854775808:=by decide +kernel
theorem zjh  :(decide (((rdL rdI (some [4,2,3,6])).1)=(([(1:Int),(-2:Int)]:List Int))))=true:=by decide +kernel
theorem zji  :((((leftN ((rdL rdI (some [4,2,3,6])).2):Int)) == (1:Int)))=true:=by decide +kernel
theorem zjj  :((((rdI ((rdL rdI (some [4,2,3,6])).2)).1) == (3:Int)))=true:=by decide +kernel
theorem zjk  :((((leftN ((rdI ((rdL rdI (some [4,2,3,6])).2)).2):Int)) == (0:Int)))=true:=by decide +kernel
theorem zjl  :(!(bdO ((rdI ((rdL rdI (some [4,2,3,6])).2)).2)))=true:=by decide +kernel
theorem zjm  :((((rdI ((rdI ((rdL rdI (some [4,2,3,6])).2)).2)).1) == (0:Int)))=true:=by decide +kernel
theorem zjn  :((((encL encI (([(1:Int),(-2:Int)]:List Int))):List UInt8) == [4,2,3]))=true:=by decide +kernel
theorem zjo  :((((encRS ((nz (2:Int),nz (4:Int)))):List UInt8) == []))=true:=by decide +kernel
theorem zjp  :(bdO ((rdI ((rdI ((rdL rdI (some [4,2,3,6])).2)).2)).2))=true:=by decide +kernel
theorem zjK  :([128,0]:List UInt8).length≤1000000:=by decide +kernel
theorem zjq  :(malB [128,0] (0:Int))=true:=by decide +kernel
theorem zjL  :([6,50,47,52]:List UInt8).length≤1000000:=by decide +kernel
theorem zjr  :(malB [6,50,47,52] (5:Int))=true:=by decide +kernel
theorem zjM  :([128]:List UInt8).length≤1000000:=by decide +kernel
theorem zjs  :(malB [128] (0:Int))=true:=by decide +kernel
theorem zjN  :([6,97]:List UInt8).length≤1000000:=by decide +kernel
theorem zjt  :(malB [6,97] (1:Int))=true:=by decide +kernel
theorem zhN  :([2,2,0]:List UInt8).length≤1000000:=by decide +kernel
theorem zhM  :malB [2,2,0] (4:Int)=true:=by decide +kernel
theorem zsn {w0:World} (hM:LM w0) (hTS:LS w0)  :Fun (KN w0) Tryz.prog 9 [] (.o (.c (pV (.bool true)))):=
 znQ  hM hTS _ _ _ _ _ _ _ _ _ _ _ _ _ _ _ _ _ _ _ _ _ _ _ _ _ _ _ _ _ _ _ _ _ _ _ _ _ _ _ _ _ _ _ _ _ _ _ _ _ _ _ rfl rfl rfl rfl rfl rfl rfl rfl rfl rfl rfl rfl rfl rfl rfl rfl rfl rfl rfl rfl rfl rfl rfl rfl rfl rfl rfl rfl rfl rfl rfl rfl rfl rfl rfl rfl rfl rfl rfl rfl rfl rfl rfl rfl rfl rfl rfl rfl rfl rfl (zhM  ) (zlf  ) (zld  ) (zfm  ) (zle  ) (zju  ) (zi9  ) (zjv  ) (zja  ) (zjw  ) (zjb  ) (zjx  ) (zjc  ) (zjy  ) (zjz  ) (zjA  ) (zjd  ) (zjB  ) (zjC  ) (zje  ) (zjD  ) (zjE  ) (zjf  ) (zfm  ) (zeg  ) (zjF  ) (zjg  ) (zeg  ) (zjG  ) (zjH  ) (zjI  ) (zjJ  ) (zjh  ) (zji  ) (zjj  ) (zjk  ) (zjl  ) (zjm  ) (zjn  ) (zjo  ) (zjp  ) (zjK  ) (zjq  ) (zjL  ) (zjr  ) (zjM  ) (zjs  ) (zjN  ) (zjt  ) (zhN  )
end Go.Proofs.YtjcegdldgjphiaaGreatDoor
namespace Go.Proofs.YtjcegdldgjphiaaGreatDoor
open Go.RowKit Go.Shelf
structure wn_l_T where
 i:Int
 s:St
end Go.Proofs.YtjcegdldgjphiaaGreatDoor
namespace Go.Proofs.YtjcegdldgjphiaaGreatDoor
open Go.RowKit Go.Shelf
abbrev Val:=Int×Int×List UInt8×List Int×V3×List Pl×List Int
def cVal (v:Val):List Pred:=[pV (.int .u8 v.1),pI v.2.1,pS v.2.2.1,pLs cI v.2.2.2.1,pI v.2.2.2.2.1.1,pI v.2.2.2.2.1.2.1,pI v.2.2.2.2.1.2.2,pLs cPl v.2.2.2.2.2.1,pLs cI v.2.2.2.2.2.2]
def txV (v:Val):List UInt8:=v.2.2.1.take 100
def inV (v:Val):List Int:=v.2.2.2.1.take 20
def clV (v:Val):List Pl:=v.2.2.2.2.2.1.take 10
def raV (v:Val):RR:=rq (madeR (v.2.2.2.2.2.2.take 12))
structure OkV (u:Val):Prop where
 k:0≤u.1∧u.1<256
 n:InI u.2.1
 l:∀x∈u.2.2.2.1,InI x
 v:InV u.2.2.2.2.1
 c:∀x∈u.2.2.2.2.2.1,InP x
theorem zee {α:Type} {l:List α} {n k:Nat} {m:Int} (h1:(l.length:Int)=m) (h2:(if (k:Int)<m then (k:Int) else m)=(n:Int)):l.take n=l.take k∧n≤l.length:=by
 split at h2
 ·rw [show n=k by omega];exact ⟨rfl,by omega⟩
 ·rw [show n=l.length by omega,List.take_of_length_le (Nat.le_refl _),List.take_of_length_le (by omega)];exact ⟨rfl,Nat.le_refl _⟩
abbrev zzB:List (Nat×Ent):=(1000006,.op (.len [9] 3) [yh 2] [] (yh 9))::(1000007,.op (.min [3,3] 3) [yh 9,LF (.k (.int .i64 100))] [] (yh 10))::(1000008,.op (.sc 9 false true false) [yh 2,yh 10] [] (yh 11))::[]
theorem zwa {w0:World} (v_:Val) (r:(List UInt8)) (hr:txV v_=r):Fun (KN w0) Tryz.prog 39 [.o (.g [pV (.int .u8 v_.1),pI v_.2.1,pS v_.2.2.1,pLs cI v_.2.2.2.1,pI v_.2.2.2.2.1.1,pI v_.2.2.2.2.1.2.1,pI v_.2.2.2.2.1.2.2,pLs cPl v_.2.2.2.2.2.1,pLs cI v_.2.2.2.2.2.2])] (.o (.c (pS r))):=by
 obtain ⟨v1,e1⟩:=LX (((v_.2.2.1:List UInt8).length:Int))
 obtain ⟨v2,e2⟩:=LX ((if (100:Int)<v1 then (100:Int) else v1))
 obtain ⟨n3,s4⟩:∃(n3:Nat),v2=(n3:Int):=by (refine ⟨v2.toNat,?_⟩;have t:=e2;split at t<;>omega)
 obtain ⟨v5,e5⟩:=LX ((v_.2.2.1:List UInt8).take n3)
 have s6:n3≤(v_.2.2.1:List UInt8).length:=by (exact (zee (k:=100) e1 (e2.trans s4)).2)
 let A1:List Pred→List Pred:=fun t=>pV (.int .u8 v_.1)::pI v_.2.1::pS v_.2.2.1::pLs cI v_.2.2.2.1::pI v_.2.2.2.2.1.1::pI v_.2.2.2.2.1.2.1::pI v_.2.2.2.2.1.2.2::pLs cPl v_.2.2.2.2.2.1::pLs cI v_.2.2.2.2.2.2::pI v1::pI v2::pS v5::t
 have f1:LA (KN w0) A1:=fun t h=>⟨zc,zc,zc,(zi zl),zc,zc,zc,(zi zo),(zi zl),zc,zc,zc,h⟩
 have T1:LT (KN w0) Tryz.prog A1 zzB:=fun t=>⟨e_op1 (za rfl) (za rfl) (fun W=>by rw [← e1];exact zav (by kernel_rfl) W),e_op2 (za rfl) ze (za rfl) (fun W=>by rw [← e2];exact zf4 W),e_op2 (za rfl) (za rfl) (za rfl) (fun W=>by rw [← e5];exact zcf (by kernel_rfl) s4 s6 W),trivial⟩
 refine Fun.fin (r:=.o (.c (pS v5))) (zq (zr (F:=FL (A1 []) []) (C:=zzB) (k:=⟨39,[.o (.g [.h 0,.h 1,.h 2,.h 3,.h 4,.h 5,.h 6,.h 7,.h 8])],[],yh 11,[]⟩) 0 (zg (f1 [] trivial)) (T1 []) mixed (by kernel_rfl))) (fun v W D h=>?_)
 have r0:r=v5:=by
  rw [← hr,← e5,(zee (k:=100) e1 (e2.trans s4)).1];rfl
 rw [r0];exact h
abbrev zzy:List (Nat×Ent):=(1000006,.op (.len [22] 3) [yh 3] [] (yh 9))::(1000007,.op (.min [3,3] 3) [yh 9,LF (.k (.int .i64 20))] [] (yh 10))::(1000008,.op (.sc 22 false true false) [yh 3,yh 10] [] (yh 11))::[]
theorem zv9 {w0:World} (v_:Val) (r:(List Int)) (hr:inV v_=r):Fun (KN w0) Tryz.prog 11 [.o (.g [pV (.int .u8 v_.1),pI v_.2.1,pS v_.2.2.1,pLs cI v_.2.2.2.1,pI v_.2.2.2.2.1.1,pI v_.2.2.2.2.1.2.1,pI v_.2.2.2.2.1.2.2,pLs cPl v_.2.2.2.2.2.1,pLs cI v_.2.2.2.2.2.2])] (.o (.c (pLs cI r))):=by
 obtain ⟨v1,e1⟩:=LX ((v_.2.2.2.1.length:Int))
 obtain ⟨v2,e2⟩:=LX ((if (20:Int)<v1 then (20:Int) else v1))
 obtain ⟨n3,s4⟩:∃(n3:Nat),v2=(n3:Int):=by (refine ⟨v2.toNat,?_⟩;have t:=e2;split at t<;>omega)
 obtain ⟨v5,e5⟩:=LX (v_.2.2.2.1.take n3)
 have s6:n3≤v_.2.2.2.1.length:=by (exact (zee (k:=20) e1 (e2.trans s4)).2)
 let A1:List Pred→List Pred:=fun t=>pV (.int .u8 v_.1)::pI v_.2.1::pS v_.2.2.1::pLs cI v_.2.2.2.1::pI v_.2.2.2.2.1.1::pI v_.2.2.2.2.1.2.1::pI v_.2.2.2.2.1.2.2::pLs cPl v_.2.2.2.2.2.1::pLs cI v_.2.2.2.2.2.2::pI v1::pI v2::pLs cI v5::t
 have f1:LA (KN w0) A1:=fun t h=>⟨zc,zc,zc,(zi zl),zc,zc,zc,(zi zo),(zi zl),zc,zc,(zi zl),h⟩
 have T1:LT (KN w0) Tryz.prog A1 zzy:=fun t=>⟨zH (E:=3) (by kernel_rfl) (zd rfl) (za (by rw [e1];rfl)),e_op2 (za rfl) ze (za rfl) (fun W=>by rw [← e2];exact zf4 W),zj8 (E:=3) (z:=1) (fun _=>rfl) (by kernel_rfl) (by kernel_rfl) (zd rfl) (za rfl) s4 s6 (zd (by rw [e5];rfl)),trivial⟩
 refine Fun.fin (r:=.o (.c (pLs cI v5))) (zq (zr (F:=FL (A1 []) []) (C:=zzy) (k:=⟨11,[.o (.g [.h 0,.h 1,.h 2,.h 3,.h 4,.h 5,.h 6,.h 7,.h 8])],[],yh 11,[]⟩) 0 (zg (f1 [] trivial)) (T1 []) mixed (by kernel_rfl))) (fun v W D h=>?_)
 have r0:r=v5:=by
  rw [← hr,← e5,(zee (k:=20) e1 (e2.trans s4)).1];rfl
 rw [r0];exact h
abbrev zzx:List (Nat×Ent):=(1000006,.op (.len [25] 3) [yh 7] [] (yh 9))::(1000007,.op (.min [3,3] 3) [yh 9,LF (.k (.int .i64 10))] [] (yh 10))::(1000008,.op (.sc 25 false true false) [yh 7,yh 10] [] (yh 11))::[]
theorem zv8 {w0:World} (v_:Val) (r:(List Pl)) (hr:clV v_=r):Fun (KN w0) Tryz.prog 40 [.o (.g [pV (.int .u8 v_.1),pI v_.2.1,pS v_.2.2.1,pLs cI v_.2.2.2.1,pI v_.2.2.2.2.1.1,pI v_.2.2.2.2.1.2.1,pI v_.2.2.2.2.1.2.2,pLs cPl v_.2.2.2.2.2.1,pLs cI v_.2.2.2.2.2.2])] (.o (.c (pLs cPl r))):=by
 obtain ⟨v1,e1⟩:=LX ((v_.2.2.2.2.2.1.length:Int))
 obtain ⟨v2,e2⟩:=LX ((if (10:Int)<v1 then (10:Int) else v1))
 obtain ⟨n3,s4⟩:∃(n3:Nat),v2=(n3:Int):=by (refine ⟨v2.toNat,?_⟩;have t:=e2;split at t<;>omega)
 obtain ⟨v5,e5⟩:=LX (v_.2.2.2.2.2.1.take n3)
 have s6:n3≤v_.2.2.2.2.2.1.length:=by (exact (zee (k:=10) e1 (e2.trans s4)).2)
 let A1:List Pred→List Pred:=fun t=>pV (.int .u8 v_.1)::pI v_.2.1::pS v_.2.2.1::pLs cI v_.2.2.2.1::pI v_.2.2.2.2.1.1::pI v_.2.2.2.2.1.2.1::pI v_.2.2.2.2.1.2.2::pLs cPl v_.2.2.2.2.2.1::pLs cI v_.2.2.2.2.2.2::pI v1::pI v2::pLs cPl v5::t
 have f1:LA (KN w0) A1:=fun t h=>⟨zc,zc,zc,(zi zl),zc,zc,zc,(zi zo),(zi zl),zc,zc,(zi zo),h⟩
 have T1:LT (KN w0) Tryz.prog A1 zzx:=fun t=>⟨zH (E:=69) (by kernel_rfl) (zd rfl) (za (by rw [e1];rfl)),e_op2 (za rfl) ze (za rfl) (fun W=>by rw [← e2];exact zf4 W),zj8 (E:=69) (z:=4) (fun _=>rfl) (by kernel_rfl) (by kernel_rfl) (zd rfl) (za rfl) s4 s6 (zd (by rw [e5];rfl)),trivial⟩
 refine Fun.fin (r:=.o (.c (pLs cPl v5))) (zq (zr (F:=FL (A1 []) []) (C:=zzx) (k:=⟨40,[.o (.g [.h 0,.h 1,.h 2,.h 3,.h 4,.h 5,.h 6,.h 7,.h 8])],[],yh 11,[]⟩) 0 (zg (f1 [] trivial)) (T1 []) mixed (by kernel_rfl))) (fun v W D h=>?_)
 have r0:r=v5:=by
  rw [← hr,← e5,(zee (k:=10) e1 (e2.trans s4)).1];rfl
 rw [r0];exact h
abbrev zy2:List (Nat×Ent):=(1000006,.op (.len [22] 3) [yh 8] [] (yh 9))::(1000007,.op (.min [3,3] 3) [yh 9,LF (.k (.int .i64 12))] [] (yh 10))::(1000008,.op (.sc 22 false true false) [yh 8,yh 10] [] (yh 11))::(1000009,.call ⟨68,[yh 11],[],.o (.g [.h 12,.h 13,.h 14,.h 15]),[]⟩)::[]
theorem zuT {w0:World} (v_:Val) (r:RR) (hr:raV v_=r):Fun (KN w0) Tryz.prog 41 [.o (.g [pV (.int .u8 v_.1),pI v_.2.1,pS v_.2.2.1,pLs cI v_.2.2.2.1,pI v_.2.2.2.2.1.1,pI v_.2.2.2.2.1.2.1,pI v_.2.2.2.2.1.2.2,pLs cPl v_.2.2.2.2.2.1,pLs cI v_.2.2.2.2.2.2])] (.o (.g [pB r.1.1,pD r.1.2,pB r.2.1,pD r.2.2])):=by
 obtain ⟨v1,e1⟩:=LX ((v_.2.2.2.2.2.2.length:Int))
 obtain ⟨v2,e2⟩:=LX ((if (12:Int)<v1 then (12:Int) else v1))
 obtain ⟨n3,s4⟩:∃(n3:Nat),v2=(n3:Int):=by (refine ⟨v2.toNat,?_⟩;have t:=e2;split at t<;>omega)
 obtain ⟨v5,e5⟩:=LX (v_.2.2.2.2.2.2.take n3)
 have s6:n3≤v_.2.2.2.2.2.2.length:=by (exact (zee (k:=12) e1 (e2.trans s4)).2)
 obtain ⟨v7,e7⟩:=LX (rq (madeR v5))
 let A1:List Pred→List Pred:=fun t=>pV (.int .u8 v_.1)::pI v_.2.1::pS v_.2.2.1::pLs cI v_.2.2.2.1::pI v_.2.2.2.2.1.1::pI v_.2.2.2.2.1.2.1::pI v_.2.2.2.2.1.2.2::pLs cPl v_.2.2.2.2.2.1::pLs cI v_.2.2.2.2.2.2::pI v1::pI v2::pLs cI v5::pB v7.1.1::pD v7.1.2::pB v7.2.1::pD v7.2.2::t
 have f1:LA (KN w0) A1:=fun t h=>⟨zc,zc,zc,(zi zl),zc,zc,zc,(zi zo),(zi zl),zc,zc,(zi zl),zc,zm,zc,zm,h⟩
 have T1:LT (KN w0) Tryz.prog A1 zy2:=fun t=>⟨zH (E:=3) (by kernel_rfl) (zd rfl) (za (by rw [e1];rfl)),e_op2 (za rfl) ze (za rfl) (fun W=>by rw [← e2];exact zf4 W),zj8 (E:=3) (z:=1) (fun _=>rfl) (by kernel_rfl) (by kernel_rfl) (zd rfl) (za rfl) s4 s6 (zd (by rw [e5];rfl)),zh (zvk v5 v7 e7),trivial⟩
 refine Fun.fin (r:=.o (.g [pB v7.1.1,pD v7.1.2,pB v7.2.1,pD v7.2.2])) (zq (zr (F:=FL (A1 []) []) (C:=zy2) (k:=⟨41,[.o (.g [.h 0,.h 1,.h 2,.h 3,.h 4,.h 5,.h 6,.h 7,.h 8])],[],.o (.g [.h 12,.h 13,.h 14,.h 15]),[]⟩) 0 (zg (f1 [] trivial)) (T1 []) mixed (by kernel_rfl))) (fun v W D h=>?_)
 have r0:r=v7:=by
  rw [← hr,← e7,← e5,(zee (k:=12) e1 (e2.trans s4)).1];rfl
 rw [r0];exact h
def byV (c:Int) (v:Val):List UInt8:=if c=0 then encI v.2.1 else if c=1 then encT (txV v) else if c=2 then encL encI (inV v) else if c=3 then encV v.2.2.2.2.1 else if c=4 then encL encP (clV v) else encRS (raV v)
theorem zv6 (v:Val):TxW (txV v):=by
 unfold TxW txV
 rw [List.length_take];omega
theorem zvF (v:Val):TxW (textR (raV v)):=by
 obtain ⟨t,ht,hl,_⟩:=zeL (v.2.2.2.2.2.2.take 12)
 unfold TxW raV
 rw [ht];omega
theorem zih {v:Val} (h:OkV v):(∀x∈inV v,InI x)∧(inV v).length≤20:=⟨fun x hx=>h.l x (List.mem_of_mem_take hx),by unfold inV;rw [List.length_take];omega⟩
theorem zhW {v:Val} (h:OkV v):(∀x∈clV v,InP x)∧(clV v).length≤10:=⟨fun x hx=>h.c x (List.mem_of_mem_take hx),by unfold clV;rw [List.length_take];omega⟩
abbrev zzl:List (Nat×Ent):=(1000004,.bin .rem 5 (yh 0) (LF (.k (.int .u8 6))) (yh 9))::(1000005,.bin .eql 5 (yh 9) (LF (.k (.int .u8 0))) (yh 10))::[]
abbrev zz6:List (Nat×Ent):=(10010,.fb 10 true)::(1000009,.call ⟨13,[yh 1],[],yh 11,[]⟩)::zzl
abbrev zzm:List (Nat×Ent):=(10010,.fb 10 false)::(1000007,.bin .eql 5 (yh 9) (LF (.k (.int .u8 1))) (yh 11))::zzl
abbrev zz7:List (Nat×Ent):=(10011,.fb 11 true)::(1000010,.call ⟨39,[.o (.g [.h 0,.h 1,.h 2,.h 3,.h 4,.h 5,.h 6,.h 7,.h 8])],[],yh 12,[]⟩)::(1000011,.call ⟨42,[yh 12],[],yh 13,[]⟩)::zzm
abbrev zzn:List (Nat×Ent):=(10011,.fb 11 false)::(1000009,.bin .eql 5 (yh 9) (LF (.k (.int .u8 2))) (yh 12))::zzm
abbrev zz8:List (Nat×Ent):=(10012,.fb 12 true)::(1000012,.call ⟨11,[.o (.g [.h 0,.h 1,.h 2,.h 3,.h 4,.h 5,.h 6,.h 7,.h 8])],[],yh 13,[]⟩)::(1000013,.call ⟨43,[yh 13],[],yh 14,[]⟩)::zzn
abbrev zzo:List (Nat×Ent):=(10012,.fb 12 false)::(1000011,.bin .eql 5 (yh 9) (LF (.k (.int .u8 3))) (yh 13))::zzn
abbrev zz9:List (Nat×Ent):=(10013,.fb 13 true)::(1000015,.call ⟨44,[.o (.g [.h 4,.h 5,.h 6])],[],yh 14,[]⟩)::zzo
abbrev zzp:List (Nat×Ent):=(10013,.fb 13 false)::(1000013,.bin .eql 5 (yh 9) (LF (.k (.int .u8 4))) (yh 14))::zzo
abbrev zzz:List (Nat×Ent):=(10014,.fb 14 true)::(1000016,.call ⟨40,[.o (.g [.h 0,.h 1,.h 2,.h 3,.h 4,.h 5,.h 6,.h 7,.h 8])],[],yh 15,[]⟩)::(1000017,.call ⟨45,[yh 15],[],yh 16,[]⟩)::zzp
abbrev zzA:List (Nat×Ent):=(10014,.fb 14 false)::(1000016,.call ⟨41,[.o (.g [.h 0,.h 1,.h 2,.h 3,.h 4,.h 5,.h 6,.h 7,.h 8])],[],.o (.g [.h 15,.h 16,.h 17,.h 18]),[]⟩)::(1000017,.call ⟨17,[.o (.g [.h 15,.h 16,.h 17,.h 18])],[],yh 19,[]⟩)::zzp
theorem v_own {w0:World} (v_:Val) (r:List UInt8) (hr:byV (v_.1.tmod 6) v_=r) (hv:OkV v_):Fun (KN w0) Tryz.prog 15 [.o (.g [pV (.int .u8 v_.1),pI v_.2.1,pS v_.2.2.1,pLs cI v_.2.2.2.1,pI v_.2.2.2.2.1.1,pI v_.2.2.2.2.1.2.1,pI v_.2.2.2.2.1.2.2,pLs cPl v_.2.2.2.2.2.1,pLs cI v_.2.2.2.2.2.2])] (.o (.c (pS r))):=by
 obtain ⟨v1,e1⟩:=LX ((v_.1:Int).tmod (6:Int))
 obtain ⟨v2,e2⟩:=LX ((v1 == (0:Int)))
 let A1:List Pred→List Pred:=fun t=>pV (.int .u8 v_.1)::pI v_.2.1::pS v_.2.2.1::pLs cI v_.2.2.2.1::pI v_.2.2.2.2.1.1::pI v_.2.2.2.2.1.2.1::pI v_.2.2.2.2.1.2.2::pLs cPl v_.2.2.2.2.2.1::pLs cI v_.2.2.2.2.2.2::pV (.int .u8 v1)::pB v2::t
 have f1:LA (KN w0) A1:=fun t h=>⟨zc,zc,zc,(zi zl),zc,zc,zc,(zi zo),(zi zl),zc,zc,h⟩
 have T1:LT (KN w0) Tryz.prog A1 zzl:=fun t=>⟨e_bin (za rfl) ze (za rfl) (r_ar ((qB (by decide)).trans (LO e1))),e_bin (za rfl) ze (za rfl) (r_cmp (LO e2)),trivial⟩
 cases h3:v2 with
 | true =>
  obtain ⟨v4,e4⟩:=LX (encI v_.2.1)
  have s5:InI v_.2.1:=by exact hv.n
  let A2:=fun t=>A1 (pS v4::t)
  have f2:LA (KN w0) A2:=fun t h=>f1 _ ⟨zc,h⟩
  have T2:LT (KN w0) Tryz.prog A2 zz6:=fun t=>⟨e_fbv h3,zh (zbH v_.2.1 v4 e4 s5),T1 _⟩
  refine Fun.fin (r:=.o (.c (pS v4))) (zq (zr (F:=FL (A2 []) []) (C:=zz6) (k:=⟨15,[.o (.g [.h 0,.h 1,.h 2,.h 3,.h 4,.h 5,.h 6,.h 7,.h 8])],[],yh 11,[]⟩) 0 (zg (f2 [] trivial)) (T2 []) mixed (by kernel_rfl))) (fun v W D h=>?_)
  have r0:r=v4:=by
   have q0:=eq_of_beq (e2.trans h3)
   rw [← hr];unfold byV;rw [e1];rw [if_pos q0];rw [e4]
  rw [r0];exact h
 | false =>
  obtain ⟨v4,e4⟩:=LX ((v1 == (1:Int)))
  let A3:=fun t=>A1 (pB v4::t)
  have f3:LA (KN w0) A3:=fun t h=>f1 _ ⟨zc,h⟩
  have T3:LT (KN w0) Tryz.prog A3 zzm:=fun t=>⟨e_fbv h3,e_bin (za rfl) ze (za rfl) (r_cmp (LO e4)),T1 _⟩
  cases h5:v4 with
  | true =>
   obtain ⟨v6,e6⟩:=LX (txV v_)
   obtain ⟨v7,e7⟩:=LX (encT v6)
   have s8:TxW v6:=by (subst_vars;exact zv6 _)
   let A4:=fun t=>A3 (pS v6::pS v7::t)
   have f4:LA (KN w0) A4:=fun t h=>f3 _ ⟨zc,zc,h⟩
   have T4:LT (KN w0) Tryz.prog A4 zz7:=fun t=>⟨e_fbv h5,zh (zwa v_ v6 e6),zh (zqm v6 v7 e7 s8),T3 _⟩
   refine Fun.fin (r:=.o (.c (pS v7))) (zq (zr (F:=FL (A4 []) []) (C:=zz7) (k:=⟨15,[.o (.g [.h 0,.h 1,.h 2,.h 3,.h 4,.h 5,.h 6,.h 7,.h 8])],[],yh 13,[]⟩) 0 (zg (f4 [] trivial)) (T4 []) mixed (by kernel_rfl))) (fun v W D h=>?_)
   have r0:r=v7:=by
    have q0:=ne_of_beq_false (e2.trans h3)
    have q1:=eq_of_beq (e4.trans h5)
    rw [← hr];unfold byV;rw [e1];rw [if_neg q0,if_pos q1];rw [e6,e7]
   rw [r0];exact h
  | false =>
   obtain ⟨v6,e6⟩:=LX ((v1 == (2:Int)))
   let A5:=fun t=>A3 (pB v6::t)
   have f5:LA (KN w0) A5:=fun t h=>f3 _ ⟨zc,h⟩
   have T5:LT (KN w0) Tryz.prog A5 zzn:=fun t=>⟨e_fbv h5,e_bin (za rfl) ze (za rfl) (r_cmp (LO e6)),T3 _⟩
   cases h7:v6 with
   | true =>
    obtain ⟨v8,e8⟩:=LX (inV v_)
    obtain ⟨v9,e9⟩:=LX (encL encI v8)
    have s10:∀x∈v8,InI x:=by (subst_vars;exact (zih hv).1)
    have s11:v8.length≤1000000:=by (subst_vars;first | exact Nat.le_trans (zih hv).2 (by decide) | exact Nat.le_trans (zhW hv).2 (by decide))
    let A6:=fun t=>A5 (pLs cI v8::pS v9::t)
    have f6:LA (KN w0) A6:=fun t h=>f5 _ ⟨(zi zl),zc,h⟩
    have T6:LT (KN w0) Tryz.prog A6 zz8:=fun t=>⟨e_fbv h7,zh (zv9 v_ v8 e8),zh (zu1 v8 v9 e9 s10 s11),T5 _⟩
    refine Fun.fin (r:=.o (.c (pS v9))) (zq (zr (F:=FL (A6 []) []) (C:=zz8) (k:=⟨15,[.o (.g [.h 0,.h 1,.h 2,.h 3,.h 4,.h 5,.h 6,.h 7,.h 8])],[],yh 14,[]⟩) 0 (zg (f6 [] trivial)) (T6 []) mixed (by kernel_rfl))) (fun v W D h=>?_)
    have r0:r=v9:=by
     have q0:=ne_of_beq_false (e2.trans h3)
     have q1:=ne_of_beq_false (e4.trans h5)
     have q2:=eq_of_beq (e6.trans h7)
     rw [← hr];unfold byV;rw [e1];rw [if_neg q0,if_neg q1,if_pos q2];rw [e8,e9]
    rw [r0];exact h
   | false =>
    obtain ⟨v8,e8⟩:=LX ((v1 == (3:Int)))
    let A7:=fun t=>A5 (pB v8::t)
    have f7:LA (KN w0) A7:=fun t h=>f5 _ ⟨zc,h⟩
    have T7:LT (KN w0) Tryz.prog A7 zzo:=fun t=>⟨e_fbv h7,e_bin (za rfl) ze (za rfl) (r_cmp (LO e8)),T5 _⟩
    cases h9:v8 with
    | true =>
     obtain ⟨v10,e10⟩:=LX (encV v_.2.2.2.2.1)
     have s11:InV v_.2.2.2.2.1:=by exact hv.v
     let A8:=fun t=>A7 (pS v10::t)
     have f8:LA (KN w0) A8:=fun t h=>f7 _ ⟨zc,h⟩
     have T8:LT (KN w0) Tryz.prog A8 zz9:=fun t=>⟨e_fbv h9,zh (zs8 v_.2.2.2.2.1 v10 e10 s11),T7 _⟩
     refine Fun.fin (r:=.o (.c (pS v10))) (zq (zr (F:=FL (A8 []) []) (C:=zz9) (k:=⟨15,[.o (.g [.h 0,.h 1,.h 2,.h 3,.h 4,.h 5,.h 6,.h 7,.h 8])],[],yh 14,[]⟩) 0 (zg (f8 [] trivial)) (T8 []) mixed (by kernel_rfl))) (fun v W D h=>?_)
     have r0:r=v10:=by
      have q0:=ne_of_beq_false (e2.trans h3)
      have q1:=ne_of_beq_false (e4.trans h5)
      have q2:=ne_of_beq_false (e6.trans h7)
      have q3:=eq_of_beq (e8.trans h9)
      rw [← hr];unfold byV;rw [e1];rw [if_neg q0,if_neg q1,if_neg q2,if_pos q3];rw [e10]
     rw [r0];exact h
    | false =>
     obtain ⟨v10,e10⟩:=LX ((v1 == (4:Int)))
     let A9:=fun t=>A7 (pB v10::t)
     have f9:LA (KN w0) A9:=fun t h=>f7 _ ⟨zc,h⟩
     have T9:LT (KN w0) Tryz.prog A9 zzp:=fun t=>⟨e_fbv h9,e_bin (za rfl) ze (za rfl) (r_cmp (LO e10)),T7 _⟩
     cases h11:v10 with
     | true =>
      obtain ⟨v12,e12⟩:=LX (clV v_)
      obtain ⟨v13,e13⟩:=LX (encL encP v12)
      have s14:∀x∈v12,InP x:=by (subst_vars;exact (zhW hv).1)
      have s15:v12.length≤1000000:=by (subst_vars;first | exact Nat.le_trans (zih hv).2 (by decide) | exact Nat.le_trans (zhW hv).2 (by decide))
      let A10:=fun t=>A9 (pLs cPl v12::pS v13::t)
      have f10:LA (KN w0) A10:=fun t h=>f9 _ ⟨(zi zo),zc,h⟩
      have T10:LT (KN w0) Tryz.prog A10 zzz:=fun t=>⟨e_fbv h11,zh (zv8 v_ v12 e12),zh (zuZ v12 v13 e13 s14 s15),T9 _⟩
      refine Fun.fin (r:=.o (.c (pS v13))) (zq (zr (F:=FL (A10 []) []) (C:=zzz) (k:=⟨15,[.o (.g [.h 0,.h 1,.h 2,.h 3,.h 4,.h 5,.h 6,.h 7,.h 8])],[],yh 16,[]⟩) 0 (zg (f10 [] trivial)) (T10 []) mixed (by kernel_rfl))) (fun v W D h=>?_)
      have r0:r=v13:=by
       have q0:=ne_of_beq_false (e2.trans h3)
       have q1:=ne_of_beq_false (e4.trans h5)
       have q2:=ne_of_beq_false (e6.trans h7)
       have q3:=ne_of_beq_false (e8.trans h9)
       have q4:=eq_of_beq (e10.trans h11)
       rw [← hr];unfold byV;rw [e1];rw [if_neg q0,if_neg q1,if_neg q2,if_neg q3,if_pos q4];rw [e12,e13]
      rw [r0];exact h
     | false =>
      obtain ⟨v12,e12⟩:=LX (raV v_)
      obtain ⟨v13,e13⟩:=LX (encRS v12)
      have s14:TxW (textR v12):=by (subst_vars;exact zvF _)
      let A11:=fun t=>A9 (pB v12.1.1::pD v12.1.2::pB v12.2.1::pD v12.2.2::pS v13::t)
      have f11:LA (KN w0) A11:=fun t h=>f9 _ ⟨zc,zm,zc,zm,zc,h⟩
      have T11:LT (KN w0) Tryz.prog A11 zzA:=fun t=>⟨e_fbv h11,zh (zuT v_ v12 e12),zh (zsm v12 v13 e13 s14),T9 _⟩
      refine Fun.fin (r:=.o (.c (pS v13))) (zq (zr (F:=FL (A11 []) []) (C:=zzA) (k:=⟨15,[.o (.g [.h 0,.h 1,.h 2,.h 3,.h 4,.h 5,.h 6,.h 7,.h 8])],[],yh 19,[]⟩) 0 (zg (f11 [] trivial)) (T11 []) mixed (by kernel_rfl))) (fun v W D h=>?_)
      have r0:r=v13:=by
       have q0:=ne_of_beq_false (e2.trans h3)
       have q1:=ne_of_beq_false (e4.trans h5)
       have q2:=ne_of_beq_false (e6.trans h7)
       have q3:=ne_of_beq_false (e8.trans h9)
       have q4:=ne_of_beq_false (e10.trans h11)
       rw [← hr];unfold byV;rw [e1];rw [if_neg q0,if_neg q1,if_neg q2,if_neg q3,if_neg q4];rw [e12,e13]
      rw [r0];exact h
end Go.Proofs.YtjcegdldgjphiaaGreatDoor
namespace Go.Proofs.YtjcegdldgjphiaaGreatDoor
open Go.ChangeShapes Go.WideShapes Go.ChangeAt Go.RowKit Go.Joins Go.Deep
section
variable {H:Type} {enc:TypeId×Value→H} {w:World} {base:Nat} {v:Value} {d:DataW H} {p:List MemPlace}
def Opens (enc:TypeId×Value→H) (w:World) (e:TypeId) {α:Type} (c:α→List Pred) (ok:α→Prop):Prop:=
 ∀(fuel:Nat) (cs:List Value) (y:DataW H×List MemPlace),DataW.trod enc Tryz.prog w 0 (fun _=>true) true fuel e cs=some y→∃x:α,ok x∧okl (c x) cs w (old w)
theorem zdf {t:TypeId} {k:IntKind} (ht:Tryz.prog.underlying t=some (.int k)):Opens enc w t (fun n:Int=>[pV (.int k n)]) (fun n=>(Lit.int k n).wf=true):=by
 intro fuel cs y h
 obtain ⟨n,rfl,_,hw⟩:=DataW.trod_int ht h
 exact ⟨n,hw,rfl,trivial⟩
theorem zvz {t:TypeId} (ht:Tryz.prog.underlying t=some .string):Opens enc w t (fun s:List UInt8=>[pS s]) (fun s=>s.length≤maxLen):=by
 intro fuel cs y h
 obtain ⟨s,rfl,_,hw⟩:=DataW.trod_string ht h
 exact ⟨s.data.toList,hw,rfl,trivial⟩
theorem zrj {W:World} {D:Dat} {ps qs:List Pred} {vs:List Value} {k:Nat} (h:okp ps vs W D) (hk:ps.length=k) (h2:okl qs ((vs.drop k).take qs.length) W D):okp (ps++qs) vs W D:=by
 subst hk
 unfold okp at h ⊢
 rw [List.length_append,List.take_add]
 exact zbA h h2
theorem zri {W:World} {D:Dat} {ps:List Pred} {vs us:List Value} (h:okl ps us W D) (he:∀i,i<ps.length→vs[i]?=us[i]?):okl ps (vs.take ps.length) W D:=by
 have hl:=zaa h
 have e:vs.take ps.length=us:=by
  apply List.ext_getElem?
  intro i
  rw [List.getElem?_take]
  split
  ·exact he i ‹_›
  ·rw [List.getElem?_eq_none (by omega)]
 rw [e];exact h
theorem zhd {t e:TypeId} {α:Type} {c:α→List Pred} {ok:α→Prop} {z:Nat} (ht:Tryz.prog.underlying t=some (.slice e)) (hc:Tryz.prog.cellsOf e=z) (h0:0<z) (hz:∀x,(c x).length=z) (he:Opens enc w e c ok) :
  Opens enc w t (fun l:List α=>[pLs c l]) (fun l=>(∀x∈l,ok x)∧l.length≤maxLen):=by
 intro fuel cs y h
 rcases DataW.trod_slice ht h with ⟨rfl,_⟩ | ⟨a,len,cap,elems,rest,n,_,rfl,_,_,hl,hm,hlen,hel,_,_⟩
 ·exact ⟨[],⟨fun x hx=>(by cases hx),Nat.zero_le _⟩,.inl ⟨⟨_,_,rfl⟩,rfl,rfl⟩,trivial⟩
 rw [hc] at hel
 have each:∀i,i<len→∃(x:α) (us:List Value),ok x∧okl (c x) us w (old w)∧∀j,j<z→w.cell? ((a.add (i*z)).add j)=us[j]?:=by
  intro i hi
  have h1:=hel i hi
  rw [List.getElem?_eq_getElem (by omega),Option.bind_eq_some_iff] at h1
  obtain ⟨us,hus,h2⟩:=h1
  obtain ⟨x,hx,hok⟩:=he n us _ h2
  obtain ⟨_,hul,hcell⟩:=World.cells?_some hus
  exact ⟨x,us,hx,hok,fun j hj=>hcell j hj⟩
 rcases Nat.eq_zero_or_pos len with h00 | h00
 ·subst h00
  exact ⟨[],⟨fun x hx=>(by cases hx),Nat.zero_le _⟩,.inl ⟨⟨_,_,rfl⟩,rfl,rfl⟩,trivial⟩
 obtain ⟨q,o,sp⟩:=a
 obtain ⟨x0,us0,_,ho0,hc0⟩:=each 0 h00
 have hl0:=zaa ho0
 rw [hz] at hl0
 have h1:w.cell? ⟨q,o,sp⟩=some us0[0]:=by
  have:=hc0 0 h0
  rw [List.getElem?_eq_getElem (by omega)] at this
  simpa [Addr.add] using this
 have hsp:sp=none:=by
  cases sp with
  | none=>rfl
  | some x =>
   unfold World.cell? at h1
   dsimp only at h1
   split at h1<;>simp at h1
 subst hsp
 have hblk:∃vs T fz,w.heap[q]?=some (.cells vs T fz):=by
  unfold World.cell? at h1
  dsimp only at h1
  split at h1
  ·rename_i cs T fz hh
   exact ⟨cs,T,fz,hh⟩
  ·cases h1
 obtain ⟨vs,T,fz,hh⟩:=hblk
 have hq:q<w.heap.size:=(Array.getElem?_eq_some_iff.1 hh).1
 have hcell:∀i j,(⟨q,o,none⟩:Addr).add i=⟨q,o+i,none⟩∧w.cell? (((⟨q,o,none⟩:Addr).add i).add j)=vs.toList[o+i+j]?:=by
  intro i j
  rw [show (⟨q,o,none⟩:Addr).add i=⟨q,o+i,none⟩ from zbr ..,show (⟨q,o+i,none⟩:Addr).add j=⟨q,o+i+j,none⟩ from zbr ..,zao hh]
  exact ⟨rfl,by rw [Array.getElem?_toList]⟩
 have build:∀m,m≤len→∃l:List α,l.length=m∧(∀x∈l,ok x)∧okp (l.flatMap c) (vs.toList.drop o) w (old w):=by
  intro m
  induction m with
  | zero=>intro _;exact ⟨[],rfl,fun x hx=>(by cases hx),trivial⟩
  | succ m ih =>
   intro hm1
   obtain ⟨l,h2,h3,h4⟩:=ih (by omega)
   obtain ⟨x,us,hx,hok,hcl⟩:=each m (by omega)
   refine ⟨l++[x],by rw [List.length_append,h2];rfl,fun y hy=>?_,?_⟩
   ·rcases List.mem_append.1 hy with hy | hy
    ·exact h3 y hy
    ·rw [List.mem_singleton.1 hy];exact hx
   ·rw [List.flatMap_append,List.flatMap_cons,List.flatMap_nil,List.append_nil]
    refine zrj (k:=m*z) h4 (by rw [zbR hz,h2]) (zri hok fun i hi=>?_)
    rw [hz] at hi
    rw [List.drop_drop,List.getElem?_drop,← hcl i hi,(hcell (m*z) i).2]
 obtain ⟨l,h2,h3,h4⟩:=build len (Nat.le_refl _)
 refine ⟨l,⟨h3,by omega⟩,.inr ⟨q,o,cap,T,vs,fz,by rw [h2],hq,hh,h4,by omega⟩,trivial⟩
theorem qW {W:World} {D:Dat} {ps qs:List Pred} {cs:List Value} {o z:Nat} (h:okl ps (cs.take o) W D) (h2:okl qs ((cs.drop o).take z) W D):okl (ps++qs) (cs.take (o+z)) W D:=by
 rw [List.take_add];exact zbA h h2
theorem zaf {e:TypeId} {α:Type} {c:α→List Pred} {ok:α→Prop} {n o z i:Nat} {cs:List Value} {xs:List (DataW H×List MemPlace)} (he:Opens enc w e c ok) (hz:Tryz.prog.cellsOf e=z) (h:DataW.trod enc Tryz.prog w 0 (fun _=>true) true n e ((cs.drop o).take (Tryz.prog.cellsOf e))=xs[i]?) (hi:i<xs.length) :
  ∃x,ok x∧okl (c x) ((cs.drop o).take z) w (old w):=by
 rw [List.getElem?_eq_getElem hi,hz] at h
 exact he _ _ _ h
theorem zjY:Tryz.prog.cellsOf 24=3:=by kernel_rfl
theorem zlr:Tryz.prog.cellsOf 69=4:=by kernel_rfl
theorem zog:Tryz.prog.cellsOf 27=9:=by kernel_rfl
theorem zls:Tryz.prog.cellsOf 5=1:=by kernel_rfl
theorem zof:Tryz.prog.cellsOf 41=1:=by kernel_rfl
theorem zto:Tryz.prog.cellsOf 9=1:=by kernel_rfl
theorem ztn:Tryz.prog.cellsOf 25=1:=by kernel_rfl
theorem zfI {n:Int} (h:(Lit.int .i64 n).wf=true):InI n:=by
 have:=bounds_i64 h
 exact ⟨this.1,by omega⟩
theorem zsV:Opens enc w 24 (fun v:V3=>[pI v.1,pI v.2.1,pI v.2.2]) InV:=by
 intro fuel cs y h
 obtain ⟨xs,n,_,_,hl,hlen,hf⟩:=DataW.trod_struct Tryz.underlying24 h
 rw [zjY] at hl
 have hlen3:xs.length=3:=hlen
 obtain ⟨a,ha,oa⟩:=zaf (z:=1) (zdf Tryz.underlying3) zdx (hf 0 _ rfl) (by omega)
 obtain ⟨b,hb,ob⟩:=zaf (z:=1) (zdf Tryz.underlying3) zdx (hf 1 _ rfl) (by omega)
 obtain ⟨c,hc,oc⟩:=zaf (z:=1) (zdf Tryz.underlying3) zdx (hf 2 _ rfl) (by omega)
 refine ⟨(a,b,c),⟨zfI ha,zfI hb,zfI hc⟩,?_⟩
 have:=qW (qW (qW (ps:=[]) (o:=0) trivial oa) ob) oc
 rw [List.take_of_length_le (by omega)] at this
 exact this
theorem op_pl:Opens enc w 69 cPl InP:=by
 intro fuel cs y h
 obtain ⟨xs,n,_,_,hl,hlen,hf⟩:=DataW.trod_struct Tryz.underlying69 h
 rw [zlr] at hl
 have hlen2:xs.length=2:=hlen
 obtain ⟨a,ha,oa⟩:=zaf (z:=3) zsV zjY (hf 0 _ rfl) (by omega)
 obtain ⟨b,hb,ob⟩:=zaf (z:=1) (zdf Tryz.underlying3) zdx (hf 1 _ rfl) (by omega)
 refine ⟨(a,b),⟨ha,zfI hb⟩,?_⟩
 have:=qW (qW (ps:=[]) (o:=0) trivial oa) ob
 rw [List.take_of_length_le (by omega)] at this
 exact this
theorem zo9:Opens enc w 22 (fun l:List Int=>[pLs cI l]) (fun l=>(∀x∈l,InI x)∧l.length≤maxLen):=by
 intro fuel cs y h
 obtain ⟨l,⟨h1,h2⟩,h3⟩:=zhd (c:=cI) Tryz.underlying22 zdx (by decide) (fun _=>rfl) (zdf Tryz.underlying3) fuel cs y h
 exact ⟨l,⟨fun x hx=>zfI (h1 x hx),h2⟩,h3⟩
theorem ztU:Opens enc w 25 (fun l:List Pl=>[pLs cPl l]) (fun l=>(∀x∈l,InP x)∧l.length≤maxLen):=zhd Tryz.underlying25 zlr (by decide) (fun _=>rfl) op_pl
theorem ztT:Opens enc w 5 cB (fun _=>True):=by
 intro fuel cs y h
 obtain ⟨n,rfl,_,hw⟩:=DataW.trod_int Tryz.underlying5 h
 have hb:=bounds_u8 hw
 refine ⟨UInt8.ofNat n.toNat,trivial,?_,trivial⟩
 show Value.int .u8 n=.int .u8 ((UInt8.ofNat n.toNat).toNat:Int)
 rw [UInt8.toNat_ofNat',Nat.mod_eq_of_lt (by omega),Int.toNat_of_nonneg hb.1]
theorem zrl:Opens enc w 43 (fun l:List UInt8=>[pLs cB l]) (fun l=>(∀x∈l,True)∧l.length≤maxLen):=zhd Tryz.underlying43 zls (by decide) zc9 ztT
theorem zvA:Opens enc w 27 cVal OkV:=by
 intro fuel cs y h
 obtain ⟨xs,n,_,_,hl,hlen,hf⟩:=DataW.trod_struct Tryz.underlying27 h
 rw [zog] at hl
 have hlen7:xs.length=7:=hlen
 obtain ⟨k,hk,ok⟩:=zaf (z:=1) (zdf Tryz.underlying5) zls (hf 0 _ rfl) (by omega)
 obtain ⟨a,ha,oa⟩:=zaf (z:=1) (zdf Tryz.underlying3) zdx (hf 1 _ rfl) (by omega)
 obtain ⟨s,hs,os⟩:=zaf (z:=1) (zvz Tryz.underlying9) zto (hf 2 _ rfl) (by omega)
 obtain ⟨l,hL,ol⟩:=zaf (z:=1) zo9 zlq (hf 3 _ rfl) (by omega)
 obtain ⟨v,hv,ov⟩:=zaf (z:=3) zsV zjY (hf 4 _ rfl) (by omega)
 obtain ⟨c,hc,oc⟩:=zaf (z:=1) ztU ztn (hf 5 _ rfl) (by omega)
 obtain ⟨b,hb,ob⟩:=zaf (z:=1) zo9 zlq (hf 6 _ rfl) (by omega)
 have hk8:=bounds_u8 hk
 refine ⟨(k,a,s,l,v,c,b),⟨⟨hk8.1,by omega⟩,zfI ha,hL.1,hv,hc.1⟩,?_⟩
 have:=qW (qW (qW (qW (qW (qW (qW (ps:=[]) (o:=0) trivial ok) oa) os) ol) ov) oc) ob
 rw [List.take_of_length_le (by omega)] at this
 exact this
theorem op_q2:Opens enc w 42 (fun q:Int×Int=>[pV (.int .u16 q.1),pV (.int .u16 q.2)]) (fun q=>(0≤q.1∧q.1<65536)∧0≤q.2∧q.2<65536):=by
 intro fuel cs y h
 obtain ⟨xs,n,_,_,hl,hlen,hf⟩:=DataW.trod_array Tryz.underlying42 h
 rw [show Tryz.prog.cellsOf 42=2 by kernel_rfl] at hl
 have h0:=hf 0 (by omega)
 have h1:=hf 1 (by omega)
 rw [zof] at h0 h1
 rw [List.getElem?_eq_getElem (by omega)] at h0 h1
 obtain ⟨a,ha,oa⟩:=zdf Tryz.underlying41 _ _ _ h0
 obtain ⟨b,hb,ob⟩:=zdf Tryz.underlying41 _ _ _ h1
 have ba:=bounds_u16 ha
 have bb:=bounds_u16 hb
 refine ⟨(a,b),⟨⟨ba.1,by omega⟩,⟨bb.1,by omega⟩⟩,?_⟩
 have:=qW (z:=1) (qW (z:=1) (ps:=[]) (o:=0) trivial (by simpa using oa)) (by simpa using ob)
 rw [List.take_of_length_le (by omega)] at this
 exact this
theorem zrm {t:TypeId} {α:Type} {c:α→Pred} {ok:α→Prop} (h:Opens enc w t (fun x=>[c x]) ok) (h1:v.cells=#[v]) (hd:DataW.Trod enc Tryz.prog w 0 (fun _=>true) true t v d p):∃x,ok x∧c x v w (old w):=by
 obtain ⟨fuel,hf⟩:=hd
 rw [h1] at hf
 obtain ⟨x,hx,ho⟩:=h _ _ _ hf
 exact ⟨x,hx,ho.1⟩
theorem zlV {t:TypeId} {α:Type} {c:α→List Pred} {ok:α→Prop} {cs:Array Value} (h:Opens enc w t c ok) (hd:DataW.Trod enc Tryz.prog w 0 (fun _=>true) true t (.agg cs) d p):∃x,ok x∧(PSh.o (.g (c x))).ok (.agg cs) w (old w):=by
 obtain ⟨fuel,hf⟩:=hd
 obtain ⟨x,hx,ho⟩:=h _ _ _ hf
 exact ⟨x,hx,_,rfl,ho⟩
end
end Go.Proofs.YtjcegdldgjphiaaGreatDoor
namespace Go.Proofs.YtjcegdldgjphiaaGreatDoor
open Go.RowKit Go.Shelf
theorem zdk (x:RS):leftN (rst x)≤x.1.length:=by
 cases hw:x.2.2 with
 | true=>rw [zbp hw];exact Nat.zero_le _
 | false =>
  rw [zbi hw]
  show (x.1.drop _).length≤_
  rw [List.length_drop];omega
abbrev zxW:List (Nat×Ent):=(1000002,.bin .rem 5 (yh 5) (LF (.k (.int .u8 6))) (yh 6))::(1000003,.bin .eql 5 (yh 6) (LF (.k (.int .u8 0))) (yh 7))::[]
abbrev zyY:List (Nat×Ent):=(10007,.fb 7 true)::(1000006,.call ⟨36,[.o (.c (.p 900 0))],[.bx 900 62 [.h 0,.h 1]],yh 8,[.bx 900 62 [.h 9,.h 10]]⟩)::(1000008,.call ⟨50,[.o (.c (.p 902 0))],[.bx 902 79 [.h 2,.h 3,.h 4]],yh 11,[.bx 902 79 [.h 12,.h 13,.h 14]]⟩)::(1000009,.bin .eql 3 (yh 8) (yh 11) (yh 15))::zxW
abbrev zxX:List (Nat×Ent):=(10007,.fb 7 false)::(1000005,.bin .eql 5 (yh 6) (LF (.k (.int .u8 1))) (yh 8))::zxW
abbrev zyZ:List (Nat×Ent):=(10008,.fb 8 true)::(1000008,.call ⟨51,[.o (.c (.p 900 0))],[.bx 900 62 [.h 0,.h 1]],yh 9,[.bx 900 62 [.h 10,.h 11]]⟩)::(1000010,.call ⟨52,[.o (.c (.p 902 0))],[.bx 902 79 [.h 2,.h 3,.h 4]],yh 12,[.bx 902 79 [.h 13,.h 14,.h 15]]⟩)::(1000011,.bin .eql 9 (yh 9) (yh 12) (yh 16))::zxX
abbrev zxY:List (Nat×Ent):=(10008,.fb 8 false)::(1000007,.bin .eql 5 (yh 6) (LF (.k (.int .u8 2))) (yh 9))::zxX
abbrev zy0:List (Nat×Ent):=(10009,.fb 9 true)::(1000010,.call ⟨35,[.o (.c (.p 900 0))],[.bx 900 62 [.h 0,.h 1]],yh 10,[.bx 900 62 [.h 11,.h 12]]⟩)::(1000012,.call ⟨53,[.o (.c (.p 902 0))],[.bx 902 79 [.h 2,.h 3,.h 4]],yh 13,[.bx 902 79 [.h 14,.h 15,.h 16]]⟩)::(1000013,.call ⟨37,[yh 10,yh 13],[],yh 17,[]⟩)::zxY
abbrev zxZ:List (Nat×Ent):=(10009,.fb 9 false)::(1000009,.bin .eql 5 (yh 6) (LF (.k (.int .u8 3))) (yh 10))::zxY
abbrev zy1:List (Nat×Ent):=(10010,.fb 10 true)::(1000012,.call ⟨54,[.o (.c (.p 900 0))],[.bx 900 62 [.h 0,.h 1]],.o (.g [.h 11,.h 12,.h 13]),[.bx 900 62 [.h 14,.h 15]]⟩)::(1000014,.call ⟨55,[.o (.c (.p 902 0))],[.bx 902 79 [.h 2,.h 3,.h 4]],.o (.g [.h 16,.h 17,.h 18]),[.bx 902 79 [.h 19,.h 20,.h 21]]⟩)::(1000015,.bin .eql 24 (.o (.g [.h 11,.h 12,.h 13])) (.o (.g [.h 16,.h 17,.h 18])) (yh 22))::zxZ
abbrev zx0:List (Nat×Ent):=(10010,.fb 10 false)::(1000011,.bin .eql 5 (yh 6) (LF (.k (.int .u8 4))) (yh 11))::zxZ
abbrev zyw:List (Nat×Ent):=(10011,.fb 11 true)::(1000014,.call ⟨57,[.o (.c (.p 900 0))],[.bx 900 62 [.h 0,.h 1]],yh 12,[.bx 900 62 [.h 13,.h 14]]⟩)::(1000016,.call ⟨58,[.o (.c (.p 902 0))],[.bx 902 79 [.h 2,.h 3,.h 4]],yh 15,[.bx 902 79 [.h 16,.h 17,.h 18]]⟩)::(1000017,.call ⟨56,[yh 12,yh 15],[],yh 19,[]⟩)::zx0
abbrev zyx:List (Nat×Ent):=(10011,.fb 11 false)::(1000014,.call ⟨60,[.o (.c (.p 900 0))],[.bx 900 62 [.h 0,.h 1]],.o (.g [.h 12,.h 13,.h 14,.h 15]),[.bx 900 62 [.h 16,.h 17]]⟩)::(1000016,.call ⟨61,[.o (.c (.p 902 0))],[.bx 902 79 [.h 2,.h 3,.h 4]],.o (.g [.h 18,.h 19,.h 20,.h 21]),[.bx 902 79 [.h 22,.h 23,.h 24]]⟩)::(1000017,.call ⟨59,[.o (.g [.h 12,.h 13,.h 14,.h 15]),.o (.g [.h 18,.h 19,.h 20,.h 21])],[],yh 25,[]⟩)::zx0
theorem zpX {w0:World} (hM:LM w0) (hTS:LS w0) (k:Int) (st:St) (x:RS) (r:Bool) (st2:St) (y:RS) (hr:true=r) (hs:callS (k.tmod 6) st=st2) (hy:callR (k.tmod 6) x=y) (hst:rst x=st) (hx:OkR x) (hlx:x.1.length≤1000):BFun false (KN w0) Tryz.prog 20 [.o (.c (.p 0 0)),.o (.c (.p 1 0)),.o (.c (.d (pV (.int .u8 k))))] [(62,[.d (pS (lfO st)),.d (pB (bdO st))]),(79,[.d (pS x.1),.d (pI (x.2.1:Int)),.d (pB x.2.2)])] (.o (.c (.d (pB r)))) [(62,[.d (pS (lfO st2)),.d (pB (bdO st2))]),(79,[.d (pS y.1),.d (pI (y.2.1:Int)),.d (pB y.2.2)])]:=by
 obtain ⟨v1,e1⟩:=LX ((k:Int).tmod (6:Int))
 obtain ⟨v2,e2⟩:=LX ((v1 == (0:Int)))
 let A1:List Pred→List Pred:=fun t=>pS (lfO st)::pB (bdO st)::pS x.1::pI (x.2.1:Int)::pB x.2.2::pV (.int .u8 k)::pV (.int .u8 v1)::pB v2::t
 have f1:LA (KN w0) A1:=fun t h=>⟨zc,zc,zc,zc,zc,zc,zc,zc,h⟩
 have T1:LT (KN w0) Tryz.prog A1 zxW:=fun t=>⟨e_bin (za rfl) ze (za rfl) (r_ar ((qB (by decide)).trans (LO e1))),e_bin (za rfl) ze (za rfl) (r_cmp (LO e2)),trivial⟩
 cases h3:v2 with
 | true =>
  obtain ⟨v4,e4⟩:=LX ((rdI st).1)
  obtain ⟨v5,e5⟩:=LX ((rdI st).2)
  obtain ⟨v6,e6⟩:=LX ((rfI x).1)
  obtain ⟨v7,e7⟩:=LX ((rfI x).2)
  have s8:okRS x:=by exact hx.1
  have s9:x.1.length<9223372036854775808:=by exact hx.2
  obtain ⟨v10,e10⟩:=LX ((v4 == v6))
  let A2:=fun t=>A1 (pI v4::pS (lfO v5)::pB (bdO v5)::pI v6::pS v7.1::pI (v7.2.1:Int)::pB v7.2.2::pB v10::t)
  have f2:LA (KN w0) A2:=fun t h=>f1 _ ⟨zc,zc,zc,zc,zc,zc,zc,zc,h⟩
  have T2:LT (KN w0) Tryz.prog A2 zyY:=fun t=>⟨e_fbv h3,b_con (pan:=false) (zai st v4 v5 e4 e5),b_con (pan:=false) (zaT x v6 v7 e6 e7 s8 s9),e_bin (za rfl) (za rfl) (za rfl) (r_cmp (LO e10)),T1 _⟩
  have r0:r=v10:=by
   have q0:=eq_of_beq (e2.trans h3)
   have hq:(rdI st).1=(rfI x).1:=(by rw [← hst,← (zck x hx.1).1])
   first | (rw [← hr,← e10,← e4,← e6,hq];simp;done) | (rw [← hs];unfold callS;rw [e1];rw [if_pos q0];exact e5) | (rw [← hy];unfold callR;rw [e1];rw [if_pos q0];exact e7)
  have r1:st2=v5:=by
   have q0:=eq_of_beq (e2.trans h3)
   have hq:(rdI st).1=(rfI x).1:=(by rw [← hst,← (zck x hx.1).1])
   first | (rw [← hr,← e10,← e4,← e6,hq];simp;done) | (rw [← hs];unfold callS;rw [e1];rw [if_pos q0];exact e5) | (rw [← hy];unfold callR;rw [e1];rw [if_pos q0];exact e7)
  have r2:y=v7:=by
   have q0:=eq_of_beq (e2.trans h3)
   have hq:(rdI st).1=(rfI x).1:=(by rw [← hst,← (zck x hx.1).1])
   first | (rw [← hr,← e10,← e4,← e6,hq];simp;done) | (rw [← hs];unfold callS;rw [e1];rw [if_pos q0];exact e5) | (rw [← hy];unfold callR;rw [e1];rw [if_pos q0];exact e7)
  rw [r0,r1,r2];exact con_b (pan:=false) (zr (F:=FL (A2 []) []) (C:=zyY) (k:=⟨20,[.o (.c (.p 900 0)),.o (.c (.p 902 0)),yh 5],[.bx 900 62 [.h 0,.h 1],.bx 902 79 [.h 2,.h 3,.h 4]],yh 15,[.bx 900 62 [.h 9,.h 10],.bx 902 79 [.h 12,.h 13,.h 14]]⟩) 0 (zg (f2 [] trivial)) (T2 []) mixed (by kernel_rfl))
 | false =>
  obtain ⟨v4,e4⟩:=LX ((v1 == (1:Int)))
  let A3:=fun t=>A1 (pB v4::t)
  have f3:LA (KN w0) A3:=fun t h=>f1 _ ⟨zc,h⟩
  have T3:LT (KN w0) Tryz.prog A3 zxX:=fun t=>⟨e_fbv h3,e_bin (za rfl) ze (za rfl) (r_cmp (LO e4)),T1 _⟩
  cases h5:v4 with
  | true =>
   obtain ⟨v6,e6⟩:=LX ((rdT st).1)
   obtain ⟨v7,e7⟩:=LX ((rdT st).2)
   obtain ⟨v8,e8⟩:=LX ((rfT x).1)
   obtain ⟨v9,e9⟩:=LX ((rfT x).2)
   have s10:OkR x:=by exact hx
   obtain ⟨v11,e11⟩:=LX (((v6:List UInt8) == v8))
   let A4:=fun t=>A3 (pS v6::pS (lfO v7)::pB (bdO v7)::pS v8::pS v9.1::pI (v9.2.1:Int)::pB v9.2.2::pB v11::t)
   have f4:LA (KN w0) A4:=fun t h=>f3 _ ⟨zc,zc,zc,zc,zc,zc,zc,zc,h⟩
   have T4:LT (KN w0) Tryz.prog A4 zyZ:=fun t=>⟨e_fbv h5,b_con (pan:=false) (zdp st v6 v7 e6 e7),b_con (pan:=false) (zet x v8 v9 e8 e9 s10),e_bin (za rfl) (za rfl) (za rfl) (fun W X Y=>by rw [← e11];exact r_seq W X Y),T3 _⟩
   have r0:r=v11:=by
    have q0:=ne_of_beq_false (e2.trans h3)
    have q1:=eq_of_beq (e4.trans h5)
    have hq:(rdT st).1=(rfT x).1:=(by rw [← hst,← (zf9 x hx.1).1])
    first | (rw [← hr,← e11,← e6,← e8,hq];simp;done) | (rw [← hs];unfold callS;rw [e1];rw [if_neg q0,if_pos q1];exact e7) | (rw [← hy];unfold callR;rw [e1];rw [if_neg q0,if_pos q1];exact e9)
   have r1:st2=v7:=by
    have q0:=ne_of_beq_false (e2.trans h3)
    have q1:=eq_of_beq (e4.trans h5)
    have hq:(rdT st).1=(rfT x).1:=(by rw [← hst,← (zf9 x hx.1).1])
    first | (rw [← hr,← e11,← e6,← e8,hq];simp;done) | (rw [← hs];unfold callS;rw [e1];rw [if_neg q0,if_pos q1];exact e7) | (rw [← hy];unfold callR;rw [e1];rw [if_neg q0,if_pos q1];exact e9)
   have r2:y=v9:=by
    have q0:=ne_of_beq_false (e2.trans h3)
    have q1:=eq_of_beq (e4.trans h5)
    have hq:(rdT st).1=(rfT x).1:=(by rw [← hst,← (zf9 x hx.1).1])
    first | (rw [← hr,← e11,← e6,← e8,hq];simp;done) | (rw [← hs];unfold callS;rw [e1];rw [if_neg q0,if_pos q1];exact e7) | (rw [← hy];unfold callR;rw [e1];rw [if_neg q0,if_pos q1];exact e9)
   rw [r0,r1,r2];exact con_b (pan:=false) (zr (F:=FL (A4 []) []) (C:=zyZ) (k:=⟨20,[.o (.c (.p 900 0)),.o (.c (.p 902 0)),yh 5],[.bx 900 62 [.h 0,.h 1],.bx 902 79 [.h 2,.h 3,.h 4]],yh 16,[.bx 900 62 [.h 10,.h 11],.bx 902 79 [.h 13,.h 14,.h 15]]⟩) 0 (zg (f4 [] trivial)) (T4 []) mixed (by kernel_rfl))
  | false =>
   obtain ⟨v6,e6⟩:=LX ((v1 == (2:Int)))
   let A5:=fun t=>A3 (pB v6::t)
   have f5:LA (KN w0) A5:=fun t h=>f3 _ ⟨zc,h⟩
   have T5:LT (KN w0) Tryz.prog A5 zxY:=fun t=>⟨e_fbv h5,e_bin (za rfl) ze (za rfl) (r_cmp (LO e6)),T3 _⟩
   cases h7:v6 with
   | true =>
    obtain ⟨v8,e8⟩:=LX ((rdL rdI st).1)
    obtain ⟨v9,e9⟩:=LX ((rdL rdI st).2)
    have s10:leftN (rdC st).2≤1000000:=by (have hle:leftN st≤1000:=(by rw [← hst];exact Nat.le_trans (zdk x) hlx);exact Nat.le_trans (zcx st) (Nat.le_trans hle (by decide)))
    obtain ⟨v11,e11⟩:=LX ((rfL rfI x).1)
    obtain ⟨v12,e12⟩:=LX ((rfL rfI x).2)
    have s13:OkR x:=by exact hx
    have s14:x.1.length≤1000000:=by exact Nat.le_trans hlx (by decide)
    obtain ⟨v15,e15⟩:=LX (decide (v8=v11))
    have s16:v8.length<9223372036854775808:=by (have hle:leftN st≤1000:=(by rw [← hst];exact Nat.le_trans (zdk x) hlx);subst_vars;first | exact Nat.lt_of_le_of_lt (Nat.le_trans (zhi zpn _).2 hle) (by decide) | exact Nat.lt_of_le_of_lt (Nat.le_trans (zhi zsZ _).2 hle) (by decide))
    let A6:=fun t=>A5 (pLs cI v8::pS (lfO v9)::pB (bdO v9)::pLs cI v11::pS v12.1::pI (v12.2.1:Int)::pB v12.2.2::pB v15::t)
    have f6:LA (KN w0) A6:=fun t h=>f5 _ ⟨(zi zl),zc,zc,(zi zl),zc,zc,zc,zc,h⟩
    have T6:LT (KN w0) Tryz.prog A6 zy0:=fun t=>⟨e_fbv h7,b_con (pan:=false) (zhz st v8 v9 e8 e9 s10),b_con (pan:=false) (zsk x v11 v12 e11 e12 s13 s14),zh (zgj v8 v11 v15 e15 s16),T5 _⟩
    have r0:r=v15:=by
     have q0:=ne_of_beq_false (e2.trans h3)
     have q1:=ne_of_beq_false (e4.trans h5)
     have q2:=eq_of_beq (e6.trans h7)
     have hq:(rdL rdI st).1=(rfL rfI x).1:=(by rw [← hst,← (zd9 zck x hx.1).1])
     first | (rw [← hr,← e15,← e8,← e11,hq];simp;done) | (rw [← hs];unfold callS;rw [e1];rw [if_neg q0,if_neg q1,if_pos q2];exact e9) | (rw [← hy];unfold callR;rw [e1];rw [if_neg q0,if_neg q1,if_pos q2];exact e12)
    have r1:st2=v9:=by
     have q0:=ne_of_beq_false (e2.trans h3)
     have q1:=ne_of_beq_false (e4.trans h5)
     have q2:=eq_of_beq (e6.trans h7)
     have hq:(rdL rdI st).1=(rfL rfI x).1:=(by rw [← hst,← (zd9 zck x hx.1).1])
     first | (rw [← hr,← e15,← e8,← e11,hq];simp;done) | (rw [← hs];unfold callS;rw [e1];rw [if_neg q0,if_neg q1,if_pos q2];exact e9) | (rw [← hy];unfold callR;rw [e1];rw [if_neg q0,if_neg q1,if_pos q2];exact e12)
    have r2:y=v12:=by
     have q0:=ne_of_beq_false (e2.trans h3)
     have q1:=ne_of_beq_false (e4.trans h5)
     have q2:=eq_of_beq (e6.trans h7)
     have hq:(rdL rdI st).1=(rfL rfI x).1:=(by rw [← hst,← (zd9 zck x hx.1).1])
     first | (rw [← hr,← e15,← e8,← e11,hq];simp;done) | (rw [← hs];unfold callS;rw [e1];rw [if_neg q0,if_neg q1,if_pos q2];exact e9) | (rw [← hy];unfold callR;rw [e1];rw [if_neg q0,if_neg q1,if_pos q2];exact e12)
    rw [r0,r1,r2];exact con_b (pan:=false) (zr (F:=FL (A6 []) []) (C:=zy0) (k:=⟨20,[.o (.c (.p 900 0)),.o (.c (.p 902 0)),yh 5],[.bx 900 62 [.h 0,.h 1],.bx 902 79 [.h 2,.h 3,.h 4]],yh 17,[.bx 900 62 [.h 11,.h 12],.bx 902 79 [.h 14,.h 15,.h 16]]⟩) 0 (zg (f6 [] trivial)) (T6 []) mixed (by kernel_rfl))
   | false =>
    obtain ⟨v8,e8⟩:=LX ((v1 == (3:Int)))
    let A7:=fun t=>A5 (pB v8::t)
    have f7:LA (KN w0) A7:=fun t h=>f5 _ ⟨zc,h⟩
    have T7:LT (KN w0) Tryz.prog A7 zxZ:=fun t=>⟨e_fbv h7,e_bin (za rfl) ze (za rfl) (r_cmp (LO e8)),T5 _⟩
    cases h9:v8 with
    | true =>
     obtain ⟨v10,e10⟩:=LX ((rdV st).1)
     obtain ⟨v11,e11⟩:=LX ((rdV st).2)
     obtain ⟨v12,e12⟩:=LX ((rfV x).1)
     obtain ⟨v13,e13⟩:=LX ((rfV x).2)
     have s14:OkR x:=by exact hx
     obtain ⟨v15,e15⟩:=LX (decide (v10=v12))
     let A8:=fun t=>A7 (pI v10.1::pI v10.2.1::pI v10.2.2::pS (lfO v11)::pB (bdO v11)::pI v12.1::pI v12.2.1::pI v12.2.2::pS v13.1::pI (v13.2.1:Int)::pB v13.2.2::pB v15::t)
     have f8:LA (KN w0) A8:=fun t h=>f7 _ ⟨zc,zc,zc,zc,zc,zc,zc,zc,zc,zc,zc,zc,h⟩
     have T8:LT (KN w0) Tryz.prog A8 zy1:=fun t=>⟨e_fbv h9,b_con (pan:=false) (zk1 st v10 v11 e10 e11),b_con (pan:=false) (zql x v12 v13 e12 e13 s14),e_eqV (x:=v10) (y:=v12) (neg:=false) ⟨(za rfl),(za rfl),(za rfl),trivial⟩ ⟨(za rfl),(za rfl),(za rfl),trivial⟩ (za (by rw [e15];rfl)),T7 _⟩
     have r0:r=v15:=by
      have q0:=ne_of_beq_false (e2.trans h3)
      have q1:=ne_of_beq_false (e4.trans h5)
      have q2:=ne_of_beq_false (e6.trans h7)
      have q3:=eq_of_beq (e8.trans h9)
      have hq:(rdV st).1=(rfV x).1:=(by rw [← hst,← (zga x hx.1).1])
      first | (rw [← hr,← e15,← e10,← e12,hq];simp;done) | (rw [← hs];unfold callS;rw [e1];rw [if_neg q0,if_neg q1,if_neg q2,if_pos q3];exact e11) | (rw [← hy];unfold callR;rw [e1];rw [if_neg q0,if_neg q1,if_neg q2,if_pos q3];exact e13)
     have r1:st2=v11:=by
      have q0:=ne_of_beq_false (e2.trans h3)
      have q1:=ne_of_beq_false (e4.trans h5)
      have q2:=ne_of_beq_false (e6.trans h7)
      have q3:=eq_of_beq (e8.trans h9)
      have hq:(rdV st).1=(rfV x).1:=(by rw [← hst,← (zga x hx.1).1])
      first | (rw [← hr,← e15,← e10,← e12,hq];simp;done) | (rw [← hs];unfold callS;rw [e1];rw [if_neg q0,if_neg q1,if_neg q2,if_pos q3];exact e11) | (rw [← hy];unfold callR;rw [e1];rw [if_neg q0,if_neg q1,if_neg q2,if_pos q3];exact e13)
     have r2:y=v13:=by
      have q0:=ne_of_beq_false (e2.trans h3)
      have q1:=ne_of_beq_false (e4.trans h5)
      have q2:=ne_of_beq_false (e6.trans h7)
      have q3:=eq_of_beq (e8.trans h9)
      have hq:(rdV st).1=(rfV x).1:=(by rw [← hst,← (zga x hx.1).1])
      first | (rw [← hr,← e15,← e10,← e12,hq];simp;done) | (rw [← hs];unfold callS;rw [e1];rw [if_neg q0,if_neg q1,if_neg q2,if_pos q3];exact e11) | (rw [← hy];unfold callR;rw [e1];rw [if_neg q0,if_neg q1,if_neg q2,if_pos q3];exact e13)
     rw [r0,r1,r2];exact con_b (pan:=false) (zr (F:=FL (A8 []) []) (C:=zy1) (k:=⟨20,[.o (.c (.p 900 0)),.o (.c (.p 902 0)),yh 5],[.bx 900 62 [.h 0,.h 1],.bx 902 79 [.h 2,.h 3,.h 4]],yh 22,[.bx 900 62 [.h 14,.h 15],.bx 902 79 [.h 19,.h 20,.h 21]]⟩) 0 (zg (f8 [] trivial)) (T8 []) mixed (by kernel_rfl))
    | false =>
     obtain ⟨v10,e10⟩:=LX ((v1 == (4:Int)))
     let A9:=fun t=>A7 (pB v10::t)
     have f9:LA (KN w0) A9:=fun t h=>f7 _ ⟨zc,h⟩
     have T9:LT (KN w0) Tryz.prog A9 zx0:=fun t=>⟨e_fbv h9,e_bin (za rfl) ze (za rfl) (r_cmp (LO e10)),T7 _⟩
     cases h11:v10 with
     | true =>
      obtain ⟨v12,e12⟩:=LX ((rdL rdP st).1)
      obtain ⟨v13,e13⟩:=LX ((rdL rdP st).2)
      have s14:leftN (rdC st).2≤1000000:=by (have hle:leftN st≤1000:=(by rw [← hst];exact Nat.le_trans (zdk x) hlx);exact Nat.le_trans (zcx st) (Nat.le_trans hle (by decide)))
      obtain ⟨v15,e15⟩:=LX ((rfL rfP x).1)
      obtain ⟨v16,e16⟩:=LX ((rfL rfP x).2)
      have s17:OkR x:=by exact hx
      have s18:x.1.length≤1000000:=by exact Nat.le_trans hlx (by decide)
      obtain ⟨v19,e19⟩:=LX (decide (v12=v15))
      have s20:v12.length<9223372036854775808:=by (have hle:leftN st≤1000:=(by rw [← hst];exact Nat.le_trans (zdk x) hlx);subst_vars;first | exact Nat.lt_of_le_of_lt (Nat.le_trans (zhi zpn _).2 hle) (by decide) | exact Nat.lt_of_le_of_lt (Nat.le_trans (zhi zsZ _).2 hle) (by decide))
      let A10:=fun t=>A9 (pLs cPl v12::pS (lfO v13)::pB (bdO v13)::pLs cPl v15::pS v16.1::pI (v16.2.1:Int)::pB v16.2.2::pB v19::t)
      have f10:LA (KN w0) A10:=fun t h=>f9 _ ⟨(zi zo),zc,zc,(zi zo),zc,zc,zc,zc,h⟩
      have T10:LT (KN w0) Tryz.prog A10 zyw:=fun t=>⟨e_fbv h11,b_con (pan:=false) (zmf st v12 v13 e12 e13 s14),b_con (pan:=false) (zsj x v15 v16 e15 e16 s17 s18),zh (znP v12 v15 v19 e19 s20),T9 _⟩
      have r0:r=v19:=by
       have q0:=ne_of_beq_false (e2.trans h3)
       have q1:=ne_of_beq_false (e4.trans h5)
       have q2:=ne_of_beq_false (e6.trans h7)
       have q3:=ne_of_beq_false (e8.trans h9)
       have q4:=eq_of_beq (e10.trans h11)
       have hq:(rdL rdP st).1=(rfL rfP x).1:=(by rw [← hst,← (zd9 zl2 x hx.1).1])
       first | (rw [← hr,← e19,← e12,← e15,hq];simp;done) | (rw [← hs];unfold callS;rw [e1];rw [if_neg q0,if_neg q1,if_neg q2,if_neg q3,if_pos q4];exact e13) | (rw [← hy];unfold callR;rw [e1];rw [if_neg q0,if_neg q1,if_neg q2,if_neg q3,if_pos q4];exact e16)
      have r1:st2=v13:=by
       have q0:=ne_of_beq_false (e2.trans h3)
       have q1:=ne_of_beq_false (e4.trans h5)
       have q2:=ne_of_beq_false (e6.trans h7)
       have q3:=ne_of_beq_false (e8.trans h9)
       have q4:=eq_of_beq (e10.trans h11)
       have hq:(rdL rdP st).1=(rfL rfP x).1:=(by rw [← hst,← (zd9 zl2 x hx.1).1])
       first | (rw [← hr,← e19,← e12,← e15,hq];simp;done) | (rw [← hs];unfold callS;rw [e1];rw [if_neg q0,if_neg q1,if_neg q2,if_neg q3,if_pos q4];exact e13) | (rw [← hy];unfold callR;rw [e1];rw [if_neg q0,if_neg q1,if_neg q2,if_neg q3,if_pos q4];exact e16)
      have r2:y=v16:=by
       have q0:=ne_of_beq_false (e2.trans h3)
       have q1:=ne_of_beq_false (e4.trans h5)
       have q2:=ne_of_beq_false (e6.trans h7)
       have q3:=ne_of_beq_false (e8.trans h9)
       have q4:=eq_of_beq (e10.trans h11)
       have hq:(rdL rdP st).1=(rfL rfP x).1:=(by rw [← hst,← (zd9 zl2 x hx.1).1])
       first | (rw [← hr,← e19,← e12,← e15,hq];simp;done) | (rw [← hs];unfold callS;rw [e1];rw [if_neg q0,if_neg q1,if_neg q2,if_neg q3,if_pos q4];exact e13) | (rw [← hy];unfold callR;rw [e1];rw [if_neg q0,if_neg q1,if_neg q2,if_neg q3,if_pos q4];exact e16)
      rw [r0,r1,r2];exact con_b (pan:=false) (zr (F:=FL (A10 []) []) (C:=zyw) (k:=⟨20,[.o (.c (.p 900 0)),.o (.c (.p 902 0)),yh 5],[.bx 900 62 [.h 0,.h 1],.bx 902 79 [.h 2,.h 3,.h 4]],yh 19,[.bx 900 62 [.h 13,.h 14],.bx 902 79 [.h 16,.h 17,.h 18]]⟩) 0 (zg (f10 [] trivial)) (T10 []) mixed (by kernel_rfl))
     | false =>
      obtain ⟨v12,e12⟩:=LX ((rdR st).1)
      obtain ⟨v13,e13⟩:=LX ((rdR st).2)
      have s14:(rdT st).1.length<4294967281:=by (have hle:leftN st≤1000:=(by rw [← hst];exact Nat.le_trans (zdk x) hlx);exact Nat.lt_of_le_of_lt (Nat.le_trans (zpp st) hle) (by decide))
      obtain ⟨v15,e15⟩:=LX ((rfR x).1)
      obtain ⟨v16,e16⟩:=LX ((rfR x).2)
      have s17:OkR x:=by exact hx
      have s18:x.1.length≤1000:=by exact Nat.le_trans hlx (by decide)
      obtain ⟨v19,e19⟩:=LX (decide (v12=v15))
      let A11:=fun t=>A9 (pB v12.1.1::pD v12.1.2::pB v12.2.1::pD v12.2.2::pS (lfO v13)::pB (bdO v13)::pB v15.1.1::pD v15.1.2::pB v15.2.1::pD v15.2.2::pS v16.1::pI (v16.2.1:Int)::pB v16.2.2::pB v19::t)
      have f11:LA (KN w0) A11:=fun t h=>f9 _ ⟨zc,zm,zc,zm,zc,zc,zc,zm,zc,zm,zc,zc,zc,zc,h⟩
      have T11:LT (KN w0) Tryz.prog A11 zyx:=fun t=>⟨e_fbv h11,b_con (pan:=false) (ziV hM hTS st v12 v13 e12 e13 s14),b_con (pan:=false) (zqk x v15 v16 e15 e16 s17 s18),zh (zsO v12 v15 v19 e19),T9 _⟩
      have r0:r=v19:=by
       have q0:=ne_of_beq_false (e2.trans h3)
       have q1:=ne_of_beq_false (e4.trans h5)
       have q2:=ne_of_beq_false (e6.trans h7)
       have q3:=ne_of_beq_false (e8.trans h9)
       have q4:=ne_of_beq_false (e10.trans h11)
       have hq:(rdR st).1=(rfR x).1:=(by rw [← hst,← (zl3 x hx.1).1])
       first | (rw [← hr,← e19,← e12,← e15,hq];simp;done) | (rw [← hs];unfold callS;rw [e1];rw [if_neg q0,if_neg q1,if_neg q2,if_neg q3,if_neg q4];exact e13) | (rw [← hy];unfold callR;rw [e1];rw [if_neg q0,if_neg q1,if_neg q2,if_neg q3,if_neg q4];exact e16)
      have r1:st2=v13:=by
       have q0:=ne_of_beq_false (e2.trans h3)
       have q1:=ne_of_beq_false (e4.trans h5)
       have q2:=ne_of_beq_false (e6.trans h7)
       have q3:=ne_of_beq_false (e8.trans h9)
       have q4:=ne_of_beq_false (e10.trans h11)
       have hq:(rdR st).1=(rfR x).1:=(by rw [← hst,← (zl3 x hx.1).1])
       first | (rw [← hr,← e19,← e12,← e15,hq];simp;done) | (rw [← hs];unfold callS;rw [e1];rw [if_neg q0,if_neg q1,if_neg q2,if_neg q3,if_neg q4];exact e13) | (rw [← hy];unfold callR;rw [e1];rw [if_neg q0,if_neg q1,if_neg q2,if_neg q3,if_neg q4];exact e16)
      have r2:y=v16:=by
       have q0:=ne_of_beq_false (e2.trans h3)
       have q1:=ne_of_beq_false (e4.trans h5)
       have q2:=ne_of_beq_false (e6.trans h7)
       have q3:=ne_of_beq_false (e8.trans h9)
       have q4:=ne_of_beq_false (e10.trans h11)
       have hq:(rdR st).1=(rfR x).1:=(by rw [← hst,← (zl3 x hx.1).1])
       first | (rw [← hr,← e19,← e12,← e15,hq];simp;done) | (rw [← hs];unfold callS;rw [e1];rw [if_neg q0,if_neg q1,if_neg q2,if_neg q3,if_neg q4];exact e13) | (rw [← hy];unfold callR;rw [e1];rw [if_neg q0,if_neg q1,if_neg q2,if_neg q3,if_neg q4];exact e16)
      rw [r0,r1,r2];exact con_b (pan:=false) (zr (F:=FL (A11 []) []) (C:=zyx) (k:=⟨20,[.o (.c (.p 900 0)),.o (.c (.p 902 0)),yh 5],[.bx 900 62 [.h 0,.h 1],.bx 902 79 [.h 2,.h 3,.h 4]],yh 25,[.bx 900 62 [.h 16,.h 17],.bx 902 79 [.h 22,.h 23,.h 24]]⟩) 0 (zg (f11 [] trivial)) (T11 []) mixed (by kernel_rfl))
end Go.Proofs.YtjcegdldgjphiaaGreatDoor
namespace Go.Proofs.YtjcegdldgjphiaaGreatDoor
theorem zt7 (v:Val):OkF (raV v):=zrc _
theorem zlD (v:Val):encRS (raV v)=encR (raV v):=zqY (zt7 v)
theorem zoA (s:List UInt8):encT s≠[]:=by
 unfold encT
 intro h
 exact zgJ _ (List.append_eq_nil_iff.1 h).1
theorem by_ne (c:Int) (v:Val):byV c v≠[]:=by
 unfold byV
 split
 ·exact zgJ _
 split
 ·exact zoA _
 split
 ·exact zgK _ _
 split
 ·unfold encV
  intro h
  exact zgJ _ (List.append_eq_nil_iff.1 h).2
 split
 ·exact zgK _ _
 ·rw [zlD];exact zoA _
theorem zvb (c:Int) {v:Val} (hv:OkV v):(byV c v).length≤500:=by
 unfold byV
 split
 ·exact Nat.le_trans (zv hv.n) (by decide)
 split
 ·unfold encT
  have h1:(txV v).length≤100:=by unfold txV;rw [List.length_take];omega
  have h2:=zv (n:=((txV v).length:Int)) (by unfold InI;omega)
  rw [List.length_append];omega
 split
 ·unfold encL
  have h1:=(zih hv).2
  have h2:=zv (n:=((inV v).length:Int)) (by unfold InI;omega)
  have h3:=zgV (f:=encI) (k:=10) (l:=inV v) fun x hx=>zv ((zih hv).1 x hx)
  rw [List.length_append];omega
 split
 ·exact Nat.le_trans (zbP hv.v) (by decide)
 split
 ·unfold encL
  have h1:=(zhW hv).2
  have h2:=zv (n:=((clV v).length:Int)) (by unfold InI;omega)
  have h3:=zgV (f:=encP) (k:=40) (l:=clV v) fun x hx=>zen ((zhW hv).1 x hx)
  rw [List.length_append];omega
 ·rw [zlD]
  unfold encR encT
  obtain ⟨t,ht,hl,_⟩:=zeL (v.2.2.2.2.2.2.take 12)
  have h1:(textR (raV v)).length≤63:=by unfold raV;rw [ht];exact hl
  have h2:=zv (n:=((textR (raV v)).length:Int)) (by unfold InI;omega)
  rw [List.length_append];omega
end Go.Proofs.YtjcegdldgjphiaaGreatDoor
