/-
  Merged: ExI, ExJ.
-/
import Derived.Test.YtdkofaajcpcjkaaGreatDoorMTK
import Derived.Test.YtdkofaajcpcjkaaGreatDoorMTH
set_option linter.unusedSimpArgs false
set_option linter.unusedVariables false
set_option maxRecDepth 100000
namespace Go.Proofs.YtdkofaajcpcjkaaGreatDoor
open Go.RowKit
theorem zjF {args:List Int} {k:Int} {e:Xp} (h:Vx k e) (ho:e.op=1):evalX args e=valO e.n:=by cases e;simp only [Xp.op] at ho;rw [ho,zde];rfl
theorem zjE {args:List Int} {k:Int} {e:Xp} (h:Vx k e) (ho:e.op=2):evalX args e=valO (args.getD e.n.toNat 0):=by cases e;simp only [Xp.op] at ho;rw [ho,zdd];rfl
theorem zay {args:List Int} {k:Int} {e x y:Xp} {n m:Nat} (h:Vx k e) (h1:¬ e.op=1) (h2:¬ e.op=2) (hn:(0:Int)=n) (hm:(1:Int)=m) (hx:e.l[n]?=some x) (hy:e.l[m]?=some y):evalX args e=(evalX args x).bind fun a=>(evalX args y).bind fun b=>valO (operX e.op a b):=by
 obtain ⟨a,b,he,h3,_⟩:=vx_op h h1 h2
 obtain rfl:n=0:=by omega
 obtain rfl:m=1:=by omega
 have ex:x=a:=by rw [he] at hx;injection hx with hx;exact hx.symm
 have ey:y=b:=by rw [he] at hy;injection hy with hy;exact hy.symm
 subst ex;subst ey
 rw [he,zcX args h3]
 cases evalX args x<;>cases evalX args y<;>rfl
theorem zcm {args:List Int} {k:Int} {e x:Xp} {n:Nat} (h:Vx k e) (h1:¬ e.op=1) (h2:¬ e.op=2) (hx:e.l[n]?=some x) (hv:(evalX args x).isSome=false):evalX args e=none:=by
 obtain ⟨a,b,he,h3,_⟩:=vx_op h h1 h2
 have hv:evalX args x=none:=by cases q:evalX args x with
  | none=>rfl
  | some _=>rw [q] at hv;cases hv
 rw [he,zcX args h3]
 rw [he] at hx
 match n,hx with
 | 0,hx=>injection hx with hx;rw [hx,hv]
 | 1,hx=>injection hx with hx;rw [hx,hv];cases evalX args a<;>rfl
 | _+2,hx=>simp [Xp.l] at hx
theorem zD {o:Option Int} {v:Int} (h:o.isSome=true) (hv:o.getD 0=v):o=some v:=by cases o with
 | none=>cases h
 | some x=>exact congrArg some hv
theorem qT {args:List Int} {k v:Int} {x:Xp} (h:Vx k x) (h1:(evalX args x).isSome=true) (hv:(evalX args x).getD 0=v):valB v=true:=zjG h v (zD h1 hv)
theorem zaB {n v:Int} (h:valO n=some v):valB n=true:=(qv h).1 ▸ (qv h).2
theorem zaA {n:Int} (h:valO n=none):valB n=false:=by
 unfold valO at h
 split at h
 ·cases h
 ·cases hb:valB n with
  | true=>exact absurd hb (by assumption)
  | false=>rfl
def zY (w0:World) (args:List Int) (N:Nat):Prop:=∀x:Xp,Vx args.length x→nodes x≤N →
 (∀v,(evalX args x).isSome=true→(evalX args x).getD 0=v→BFun false (KN w0) Tryz.prog 63 [.o (.g [.d (pI x.op),.d (pI x.n),.d (pLs cE x.l)]),.o (.c (.p 0 0)),.o (.c (.p 1 0)),.o (.c (.p 2 0))] [(22,[.d (pLs cI args)]),(89,[.q 63 [(0,0),(1,0),(2,0)]]),(88,[.d pM])] (.o (.c (.d (pI v)))) [(22,[.d (pLs cI args)]),(89,[.q 63 [(0,0),(1,0),(2,0)]]),(88,[.d pM])]) ∧
 (∀k:Int,(3:Int)=k→(evalX args x).isSome=false→BFun true (KN w0) Tryz.prog 63 [.o (.g [.d (pI x.op),.d (pI x.n),.d (pLs cE x.l)]),.o (.c (.p 0 0)),.o (.c (.p 1 0)),.o (.c (.p 2 0))] [(22,[.d (pLs cI args)]),(89,[.q 63 [(0,0),(1,0),(2,0)]]),(88,[.d pM])] (.o (.c (.d (pV (.iface 44 (.int .i64 k)))))) [(22,[.d (pLs cI args)]),(89,[.q 63 [(0,0),(1,0),(2,0)]]),(88,[.d pM])])
theorem zZ {w0:World} {N:Nat} {args:List Int} (IH:zY w0 args N) (x:Xp) (args':List Int) (v:Int) (e:(evalX args x).getD 0=v) (h1:(evalX args x).isSome=true) (h2:Vx args.length x) (h3:nodes x≤N):BFun false (KN w0) Tryz.prog 63 [.o (.g [.d (pI x.op),.d (pI x.n),.d (pLs cE x.l)]),.o (.c (.p 0 0)),.o (.c (.p 1 0)),.o (.c (.p 2 0))] [(22,[.d (pLs cI args)]),(89,[.q 63 [(0,0),(1,0),(2,0)]]),(88,[.d pM])] (.o (.c (.d (pI v)))) [(22,[.d (pLs cI args)]),(89,[.q 63 [(0,0),(1,0),(2,0)]]),(88,[.d pM])]:=(IH x h2 h3).1 v h1 e
theorem zbG {w0:World} {N:Nat} {args:List Int} (IH:zY w0 args N) (x:Xp) (args':List Int) (v:Int) (e:(3:Int)=v) (h1:(evalX args x).isSome=false) (h2:Vx args.length x) (h3:nodes x≤N):BFun true (KN w0) Tryz.prog 63 [.o (.g [.d (pI x.op),.d (pI x.n),.d (pLs cE x.l)]),.o (.c (.p 0 0)),.o (.c (.p 1 0)),.o (.c (.p 2 0))] [(22,[.d (pLs cI args)]),(89,[.q 63 [(0,0),(1,0),(2,0)]]),(88,[.d pM])] (.o (.c (.d (pV (.iface 44 (.int .i64 v)))))) [(22,[.d (pLs cI args)]),(89,[.q 63 [(0,0),(1,0),(2,0)]]),(88,[.d pM])]:=(IH x h2 h3).2 v e h1
theorem zoz {w0:World} (e:Xp) (args:(List Int)) (N:Nat) (IH:zY w0 args N) (v1:Bool) (v3:Bool) (v4:Bool) (v6:Int) (e1:((e.op == (1:Int)))=v1) (e3:(valB e.n)=v3) (e4:(!v3)=v4) (e6:((3:Int))=v6) (h2:v1=true) (h5:v4=true):BFun true (KN w0) Tryz.prog 63 [.o (.g [.d (pI e.op),.d (pI e.n),.d (pLs cE e.l)]),.o (.c (.p 0 0)),.o (.c (.p 1 0)),.o (.c (.p 2 0))] [(22,[.d (pLs cI args)]),(89,[.q 63 [(0,0),(1,0),(2,0)]]),(88,[.d (pM)])] (.o (.c (.d (pV (.iface 44 (.int .i64 v6)))))) [(22,[.d (pLs cI args)]),(89,[.q 63 [(0,0),(1,0),(2,0)]]),(88,[.d (pM)])] :=
 con_b (pan:=true) (qg (F:=FL [pI e.op,pI e.n,pLs cE e.l,pLs cI args,pM,pB v1,pB v3,pB v4,pV (.iface 44 (.int .i64 v6))] []) (C:=[(1000007,.bin .eql 3 (yh 0) (LF (.k (.int .i64 1))) (yh 5)),
  (10005,.fb 5 true),
  (1000010,.call ⟨64,[yh 1],[],yh 6,[]⟩),
  (1000011,.un .not (yh 6) (yh 7)),
  (10007,.fb 7 true),
  (1000012,.pan ⟨25,[.o (.c (.k (.int .i64 3)))],[],yh 8,[]⟩)]) (k:=⟨63,[.o (.g [.h 0,.h 1,.h 2]),.o (.c (.p 900 0)),.o (.c (.p 901 0)),.o (.c (.p 902 0))],[.bx 900 22 [.h 3],.bx 901 89 [.q 63 [(900,0),(901,0),(902,0)]],.bx 902 88 [.h 4]],yh 8,[.bx 900 22 [.h 3],.bx 901 89 [.q 63 [(900,0),(901,0),(902,0)]],.bx 902 88 [.h 4]]⟩) ⟨[],[],0⟩ [] 0 (zg ⟨za,za,(ze (zf rfl)),(ze zt),zR,za,za,za,za,trivial⟩) ⟨e_bin (zb rfl) zd (zb rfl) (r_cmp (congrArg some e1)),
  e_fbv h2,
  zh (qR e.n v3 e3),
  e_un (zb rfl) (zb rfl) (fun W=>by rw [← e4];exact r_not W),
  e_fbv h5,
  b_con (pan:=true) (zaD (3:Int) v6 e6),
  trivial⟩ mixed trivial (fun _ _ _ _ _ hs=>by cases hs) (by kernel_rfl))
theorem zoA {w0:World} (e:Xp) (args:(List Int)) (N:Nat) (IH:zY w0 args N) (v1:Bool) (v3:Bool) (v4:Bool) (e1:((e.op == (1:Int)))=v1) (e3:(valB e.n)=v3) (e4:(!v3)=v4) (h2:v1=true) (h5:v4=false):BFun false (KN w0) Tryz.prog 63 [.o (.g [.d (pI e.op),.d (pI e.n),.d (pLs cE e.l)]),.o (.c (.p 0 0)),.o (.c (.p 1 0)),.o (.c (.p 2 0))] [(22,[.d (pLs cI args)]),(89,[.q 63 [(0,0),(1,0),(2,0)]]),(88,[.d (pM)])] (.o (.c (.d (pI e.n)))) [(22,[.d (pLs cI args)]),(89,[.q 63 [(0,0),(1,0),(2,0)]]),(88,[.d (pM)])] :=
 con_b (pan:=false) (zr (F:=FL [pI e.op,pI e.n,pLs cE e.l,pLs cI args,pM,pB v1,pB v3,pB v4] []) (C:=[(1000007,.bin .eql 3 (yh 0) (LF (.k (.int .i64 1))) (yh 5)),
  (10005,.fb 5 true),
  (1000010,.call ⟨64,[yh 1],[],yh 6,[]⟩),
  (1000011,.un .not (yh 6) (yh 7)),
  (10007,.fb 7 false)]) (k:=⟨63,[.o (.g [.h 0,.h 1,.h 2]),.o (.c (.p 900 0)),.o (.c (.p 901 0)),.o (.c (.p 902 0))],[.bx 900 22 [.h 3],.bx 901 89 [.q 63 [(900,0),(901,0),(902,0)]],.bx 902 88 [.h 4]],yh 1,[.bx 900 22 [.h 3],.bx 901 89 [.q 63 [(900,0),(901,0),(902,0)]],.bx 902 88 [.h 4]]⟩) 0 (zg ⟨za,za,(ze (zf rfl)),(ze zt),zR,za,za,za,trivial⟩) ⟨e_bin (zb rfl) zd (zb rfl) (r_cmp (congrArg some e1)),
  e_fbv h2,
  zh (qR e.n v3 e3),
  e_un (zb rfl) (zb rfl) (fun W=>by rw [← e4];exact r_not W),
  e_fbv h5,
  trivial⟩ mixed (by kernel_rfl))
theorem zoB {w0:World} (e:Xp) (args:(List Int)) (N:Nat) (IH:zY w0 args N) (v1:Bool) (v3:Bool) (n5:Nat) (x6:Int) (v9:Bool) (v10:Bool) (v12:Int) (e1:((e.op == (1:Int)))=v1) (e3:((e.op == (2:Int)))=v3) (e9:(valB x6)=v9) (e10:(!v9)=v10) (e12:((3:Int))=v12) (h2:v1=false) (h4:v3=true) (s7:e.n=(n5:Int)) (s8:args[n5]?=some x6) (h11:v10=true):BFun true (KN w0) Tryz.prog 63 [.o (.g [.d (pI e.op),.d (pI e.n),.d (pLs cE e.l)]),.o (.c (.p 0 0)),.o (.c (.p 1 0)),.o (.c (.p 2 0))] [(22,[.d (pLs cI args)]),(89,[.q 63 [(0,0),(1,0),(2,0)]]),(88,[.d (pM)])] (.o (.c (.d (pV (.iface 44 (.int .i64 v12)))))) [(22,[.d (pLs cI args)]),(89,[.q 63 [(0,0),(1,0),(2,0)]]),(88,[.d (pM)])] :=
 con_b (pan:=true) (qg (F:=FL [pI e.op,pI e.n,pLs cE e.l,pLs cI args,pM,pB v1,pB v3,pP (cI x6),pI x6,pB v9,pB v10,pV (.iface 44 (.int .i64 v12))] []) (C:=[(1000007,.bin .eql 3 (yh 0) (LF (.k (.int .i64 1))) (yh 5)),
  (10005,.fb 5 false),
  (1000009,.bin .eql 3 (yh 0) (LF (.k (.int .i64 2))) (yh 6)),
  (10006,.fb 6 true),
  (1000014,.op (.ia 22) [yh 3,yh 1] [] (yh 7)),
  (1000015,.op (.ld 3) [yh 7] [] (yh 8)),
  (1000018,.call ⟨64,[yh 8],[],yh 9,[]⟩),
  (1000019,.un .not (yh 9) (yh 10)),
  (10010,.fb 10 true),
  (1000020,.pan ⟨25,[.o (.c (.k (.int .i64 3)))],[],yh 11,[]⟩)]) (k:=⟨63,[.o (.g [.h 0,.h 1,.h 2]),.o (.c (.p 900 0)),.o (.c (.p 901 0)),.o (.c (.p 902 0))],[.bx 900 22 [.h 3],.bx 901 89 [.q 63 [(900,0),(901,0),(902,0)]],.bx 902 88 [.h 4]],yh 11,[.bx 900 22 [.h 3],.bx 901 89 [.q 63 [(900,0),(901,0),(902,0)]],.bx 902 88 [.h 4]]⟩) ⟨[],[],0⟩ [] 0 (zg ⟨za,za,(ze (zf rfl)),(ze zt),zR,za,za,(zl (zt _)),za,za,za,za,trivial⟩) ⟨e_bin (zb rfl) zd (zb rfl) (r_cmp (congrArg some e1)),
  e_fbv h2,
  e_bin (zb rfl) zd (zb rfl) (r_cmp (congrArg some e3)),
  e_fbv h4,
  e_iaL (E:=3) (z:=1) (fun _=>rfl) (by kernel_rfl) (by kernel_rfl) (zc rfl) (zb rfl) s7 s8 (zc rfl),
  e_ldP (by kernel_rfl) (zc rfl) (zc rfl),
  zh (qR x6 v9 e9),
  e_un (zb rfl) (zb rfl) (fun W=>by rw [← e10];exact r_not W),
  e_fbv h11,
  b_con (pan:=true) (zaD (3:Int) v12 e12),
  trivial⟩ mixed trivial (fun _ _ _ _ _ hs=>by cases hs) (by kernel_rfl))
theorem zoC {w0:World} (e:Xp) (args:(List Int)) (N:Nat) (IH:zY w0 args N) (v1:Bool) (v3:Bool) (n5:Nat) (x6:Int) (v9:Bool) (v10:Bool) (e1:((e.op == (1:Int)))=v1) (e3:((e.op == (2:Int)))=v3) (e9:(valB x6)=v9) (e10:(!v9)=v10) (h2:v1=false) (h4:v3=true) (s7:e.n=(n5:Int)) (s8:args[n5]?=some x6) (h11:v10=false):BFun false (KN w0) Tryz.prog 63 [.o (.g [.d (pI e.op),.d (pI e.n),.d (pLs cE e.l)]),.o (.c (.p 0 0)),.o (.c (.p 1 0)),.o (.c (.p 2 0))] [(22,[.d (pLs cI args)]),(89,[.q 63 [(0,0),(1,0),(2,0)]]),(88,[.d (pM)])] (.o (.c (.d (pI x6)))) [(22,[.d (pLs cI args)]),(89,[.q 63 [(0,0),(1,0),(2,0)]]),(88,[.d (pM)])] :=
 con_b (pan:=false) (zr (F:=FL [pI e.op,pI e.n,pLs cE e.l,pLs cI args,pM,pB v1,pB v3,pP (cI x6),pI x6,pB v9,pB v10] []) (C:=[(1000007,.bin .eql 3 (yh 0) (LF (.k (.int .i64 1))) (yh 5)),
  (10005,.fb 5 false),
  (1000009,.bin .eql 3 (yh 0) (LF (.k (.int .i64 2))) (yh 6)),
  (10006,.fb 6 true),
  (1000014,.op (.ia 22) [yh 3,yh 1] [] (yh 7)),
  (1000015,.op (.ld 3) [yh 7] [] (yh 8)),
  (1000018,.call ⟨64,[yh 8],[],yh 9,[]⟩),
  (1000019,.un .not (yh 9) (yh 10)),
  (10010,.fb 10 false)]) (k:=⟨63,[.o (.g [.h 0,.h 1,.h 2]),.o (.c (.p 900 0)),.o (.c (.p 901 0)),.o (.c (.p 902 0))],[.bx 900 22 [.h 3],.bx 901 89 [.q 63 [(900,0),(901,0),(902,0)]],.bx 902 88 [.h 4]],yh 8,[.bx 900 22 [.h 3],.bx 901 89 [.q 63 [(900,0),(901,0),(902,0)]],.bx 902 88 [.h 4]]⟩) 0 (zg ⟨za,za,(ze (zf rfl)),(ze zt),zR,za,za,(zl (zt _)),za,za,za,trivial⟩) ⟨e_bin (zb rfl) zd (zb rfl) (r_cmp (congrArg some e1)),
  e_fbv h2,
  e_bin (zb rfl) zd (zb rfl) (r_cmp (congrArg some e3)),
  e_fbv h4,
  e_iaL (E:=3) (z:=1) (fun _=>rfl) (by kernel_rfl) (by kernel_rfl) (zc rfl) (zb rfl) s7 s8 (zc rfl),
  e_ldP (by kernel_rfl) (zc rfl) (zc rfl),
  zh (qR x6 v9 e9),
  e_un (zb rfl) (zb rfl) (fun W=>by rw [← e10];exact r_not W),
  e_fbv h11,
  trivial⟩ mixed (by kernel_rfl))
theorem zoD {w0:World} (e:Xp) (args:(List Int)) (N:Nat) (IH:zY w0 args N) (v1:Bool) (v3:Bool) (n5:Nat) (x6:Xp) (v10:Int) (n15:Nat) (x16:Xp) (v20:Int) (v24:Int) (v27:Bool) (v28:Bool) (v30:Int) (e1:((e.op == (1:Int)))=v1) (e3:((e.op == (2:Int)))=v3) (e10:((evalX args x6).getD 0)=v10) (e20:((evalX args x16).getD 0)=v20) (e24:(operX 3 v10 v20)=v24) (e27:(valB v24)=v27) (e28:(!v27)=v28) (e30:((3:Int))=v30) (h2:v1=false) (h4:v3=false) (s7:(0:Int)=(n5:Int)) (s8:e.l[n5]?=some x6) (h9:(evalX args x6).isSome=true) (s11:(evalX args x6).isSome=true) (s12:Vx args.length x6) (s13:nodes x6≤N) (h14:(e.op == (3:Int))=true) (s17:(1:Int)=(n15:Int)) (s18:e.l[n15]?=some x16) (h19:(evalX args x16).isSome=true) (s21:(evalX args x16).isSome=true) (s22:Vx args.length x16) (s23:nodes x16≤N) (s25:valB v10=true) (s26:valB v20=true) (h29:v28=true):BFun true (KN w0) Tryz.prog 63 [.o (.g [.d (pI e.op),.d (pI e.n),.d (pLs cE e.l)]),.o (.c (.p 0 0)),.o (.c (.p 1 0)),.o (.c (.p 2 0))] [(22,[.d (pLs cI args)]),(89,[.q 63 [(0,0),(1,0),(2,0)]]),(88,[.d (pM)])] (.o (.c (.d (pV (.iface 44 (.int .i64 v30)))))) [(22,[.d (pLs cI args)]),(89,[.q 63 [(0,0),(1,0),(2,0)]]),(88,[.d (pM)])] :=
 con_b (pan:=true) (qg (F:=FL [pI e.op,pI e.n,pLs cE e.l,pLs cI args,pM,pB v1,pB v3,pP (cE x6),pI x6.op,pI x6.n,pLs cE x6.l,pI v10,pP (cE x16),pI x16.op,pI x16.n,pLs cE x16.l,pI v20,pI v24,pB v27,pB v28,pV (.iface 44 (.int .i64 v30))] []) (C:=[(1000007,.bin .eql 3 (yh 0) (LF (.k (.int .i64 1))) (yh 5)),
  (10005,.fb 5 false),
  (1000009,.bin .eql 3 (yh 0) (LF (.k (.int .i64 2))) (yh 6)),
  (10006,.fb 6 false),
  (1000014,.op (.ia 29) [yh 2,LF (.k (.int .i64 0))] [] (yh 7)),
  (1000015,.op (.ld 32) [yh 7] [] (.o (.g [.h 8,.h 9,.h 10]))),
  (1000016,.call ⟨63,[.o (.g [.h 8,.h 9,.h 10]),.o (.c (.p 900 0)),.o (.c (.p 901 0)),.o (.c (.p 902 0))],[.bx 900 22 [.h 3],.bx 901 89 [.q 63 [(900,0),(901,0),(902,0)]],.bx 902 88 [.h 4]],yh 11,[.bx 900 22 [.h 3],.bx 901 89 [.q 63 [(900,0),(901,0),(902,0)]],.bx 902 88 [.h 4]]⟩),
  (1000021,.op (.lk 88 false) [yh 4,yh 0] [] (LF (.q 58 []))),
  (1000026,.op (.ia 29) [yh 2,LF (.k (.int .i64 1))] [] (yh 12)),
  (1000027,.op (.ld 32) [yh 12] [] (.o (.g [.h 13,.h 14,.h 15]))),
  (1000028,.call ⟨63,[.o (.g [.h 13,.h 14,.h 15]),.o (.c (.p 900 0)),.o (.c (.p 901 0)),.o (.c (.p 902 0))],[.bx 900 22 [.h 3],.bx 901 89 [.q 63 [(900,0),(901,0),(902,0)]],.bx 902 88 [.h 4]],yh 16,[.bx 900 22 [.h 3],.bx 901 89 [.q 63 [(900,0),(901,0),(902,0)]],.bx 902 88 [.h 4]]⟩),
  (1000029,.call ⟨58,[yh 11,yh 16],[],yh 17,[]⟩),
  (1000032,.call ⟨64,[yh 17],[],yh 18,[]⟩),
  (1000033,.un .not (yh 18) (yh 19)),
  (10019,.fb 19 true),
  (1000034,.pan ⟨25,[.o (.c (.k (.int .i64 3)))],[],yh 20,[]⟩)]) (k:=⟨63,[.o (.g [.h 0,.h 1,.h 2]),.o (.c (.p 900 0)),.o (.c (.p 901 0)),.o (.c (.p 902 0))],[.bx 900 22 [.h 3],.bx 901 89 [.q 63 [(900,0),(901,0),(902,0)]],.bx 902 88 [.h 4]],yh 20,[.bx 900 22 [.h 3],.bx 901 89 [.q 63 [(900,0),(901,0),(902,0)]],.bx 902 88 [.h 4]]⟩) ⟨[],[],0⟩ [] 0 (zg ⟨za,za,(ze (zf rfl)),(ze zt),zR,za,za,(zl ((zf rfl) _)),za,za,(ze (zf rfl)),za,(zl ((zf rfl) _)),za,za,(ze (zf rfl)),za,za,za,za,za,trivial⟩) ⟨e_bin (zb rfl) zd (zb rfl) (r_cmp (congrArg some e1)),
  e_fbv h2,
  e_bin (zb rfl) zd (zb rfl) (r_cmp (congrArg some e3)),
  e_fbv h4,
  e_iaL (E:=32) (z:=3) zj (by kernel_rfl) (by kernel_rfl) (zc rfl) zd s7 s8 (zc rfl),
  e_ldG (by kernel_rfl) (by kernel_rfl) (zc rfl) (cE_eq _).symm rfl (zj _),
  b_con (pan:=false) (zZ IH x6 args v10 e10 s11 s12 s13),
  e_lk (zc rfl) (zb (show pI e.op=pV (.int .i64 3) by rw [eq_of_beq h14])) find3,
  e_iaL (E:=32) (z:=3) zj (by kernel_rfl) (by kernel_rfl) (zc rfl) zd s17 s18 (zc rfl),
  e_ldG (by kernel_rfl) (by kernel_rfl) (zc rfl) (cE_eq _).symm rfl (zj _),
  b_con (pan:=false) (zZ IH x16 args v20 e20 s21 s22 s23),
  zh (zkU v10 v20 v24 e24 s25 s26),
  zh (qR v24 v27 e27),
  e_un (zb rfl) (zb rfl) (fun W=>by rw [← e28];exact r_not W),
  e_fbv h29,
  b_con (pan:=true) (zaD (3:Int) v30 e30),
  trivial⟩ mixed trivial (fun _ _ _ _ _ hs=>by cases hs) (by kernel_rfl))
theorem zoE {w0:World} (e:Xp) (args:(List Int)) (N:Nat) (IH:zY w0 args N) (v1:Bool) (v3:Bool) (n5:Nat) (x6:Xp) (v10:Int) (n15:Nat) (x16:Xp) (v20:Int) (v24:Int) (v27:Bool) (v28:Bool) (e1:((e.op == (1:Int)))=v1) (e3:((e.op == (2:Int)))=v3) (e10:((evalX args x6).getD 0)=v10) (e20:((evalX args x16).getD 0)=v20) (e24:(operX 3 v10 v20)=v24) (e27:(valB v24)=v27) (e28:(!v27)=v28) (h2:v1=false) (h4:v3=false) (s7:(0:Int)=(n5:Int)) (s8:e.l[n5]?=some x6) (h9:(evalX args x6).isSome=true) (s11:(evalX args x6).isSome=true) (s12:Vx args.length x6) (s13:nodes x6≤N) (h14:(e.op == (3:Int))=true) (s17:(1:Int)=(n15:Int)) (s18:e.l[n15]?=some x16) (h19:(evalX args x16).isSome=true) (s21:(evalX args x16).isSome=true) (s22:Vx args.length x16) (s23:nodes x16≤N) (s25:valB v10=true) (s26:valB v20=true) (h29:v28=false):BFun false (KN w0) Tryz.prog 63 [.o (.g [.d (pI e.op),.d (pI e.n),.d (pLs cE e.l)]),.o (.c (.p 0 0)),.o (.c (.p 1 0)),.o (.c (.p 2 0))] [(22,[.d (pLs cI args)]),(89,[.q 63 [(0,0),(1,0),(2,0)]]),(88,[.d (pM)])] (.o (.c (.d (pI v24)))) [(22,[.d (pLs cI args)]),(89,[.q 63 [(0,0),(1,0),(2,0)]]),(88,[.d (pM)])] :=
 con_b (pan:=false) (zr (F:=FL [pI e.op,pI e.n,pLs cE e.l,pLs cI args,pM,pB v1,pB v3,pP (cE x6),pI x6.op,pI x6.n,pLs cE x6.l,pI v10,pP (cE x16),pI x16.op,pI x16.n,pLs cE x16.l,pI v20,pI v24,pB v27,pB v28] []) (C:=[(1000007,.bin .eql 3 (yh 0) (LF (.k (.int .i64 1))) (yh 5)),
  (10005,.fb 5 false),
  (1000009,.bin .eql 3 (yh 0) (LF (.k (.int .i64 2))) (yh 6)),
  (10006,.fb 6 false),
  (1000014,.op (.ia 29) [yh 2,LF (.k (.int .i64 0))] [] (yh 7)),
  (1000015,.op (.ld 32) [yh 7] [] (.o (.g [.h 8,.h 9,.h 10]))),
  (1000016,.call ⟨63,[.o (.g [.h 8,.h 9,.h 10]),.o (.c (.p 900 0)),.o (.c (.p 901 0)),.o (.c (.p 902 0))],[.bx 900 22 [.h 3],.bx 901 89 [.q 63 [(900,0),(901,0),(902,0)]],.bx 902 88 [.h 4]],yh 11,[.bx 900 22 [.h 3],.bx 901 89 [.q 63 [(900,0),(901,0),(902,0)]],.bx 902 88 [.h 4]]⟩),
  (1000021,.op (.lk 88 false) [yh 4,yh 0] [] (LF (.q 58 []))),
  (1000026,.op (.ia 29) [yh 2,LF (.k (.int .i64 1))] [] (yh 12)),
  (1000027,.op (.ld 32) [yh 12] [] (.o (.g [.h 13,.h 14,.h 15]))),
  (1000028,.call ⟨63,[.o (.g [.h 13,.h 14,.h 15]),.o (.c (.p 900 0)),.o (.c (.p 901 0)),.o (.c (.p 902 0))],[.bx 900 22 [.h 3],.bx 901 89 [.q 63 [(900,0),(901,0),(902,0)]],.bx 902 88 [.h 4]],yh 16,[.bx 900 22 [.h 3],.bx 901 89 [.q 63 [(900,0),(901,0),(902,0)]],.bx 902 88 [.h 4]]⟩),
  (1000029,.call ⟨58,[yh 11,yh 16],[],yh 17,[]⟩),
  (1000032,.call ⟨64,[yh 17],[],yh 18,[]⟩),
  (1000033,.un .not (yh 18) (yh 19)),
  (10019,.fb 19 false)]) (k:=⟨63,[.o (.g [.h 0,.h 1,.h 2]),.o (.c (.p 900 0)),.o (.c (.p 901 0)),.o (.c (.p 902 0))],[.bx 900 22 [.h 3],.bx 901 89 [.q 63 [(900,0),(901,0),(902,0)]],.bx 902 88 [.h 4]],yh 17,[.bx 900 22 [.h 3],.bx 901 89 [.q 63 [(900,0),(901,0),(902,0)]],.bx 902 88 [.h 4]]⟩) 0 (zg ⟨za,za,(ze (zf rfl)),(ze zt),zR,za,za,(zl ((zf rfl) _)),za,za,(ze (zf rfl)),za,(zl ((zf rfl) _)),za,za,(ze (zf rfl)),za,za,za,za,trivial⟩) ⟨e_bin (zb rfl) zd (zb rfl) (r_cmp (congrArg some e1)),
  e_fbv h2,
  e_bin (zb rfl) zd (zb rfl) (r_cmp (congrArg some e3)),
  e_fbv h4,
  e_iaL (E:=32) (z:=3) zj (by kernel_rfl) (by kernel_rfl) (zc rfl) zd s7 s8 (zc rfl),
  e_ldG (by kernel_rfl) (by kernel_rfl) (zc rfl) (cE_eq _).symm rfl (zj _),
  b_con (pan:=false) (zZ IH x6 args v10 e10 s11 s12 s13),
  e_lk (zc rfl) (zb (show pI e.op=pV (.int .i64 3) by rw [eq_of_beq h14])) find3,
  e_iaL (E:=32) (z:=3) zj (by kernel_rfl) (by kernel_rfl) (zc rfl) zd s17 s18 (zc rfl),
  e_ldG (by kernel_rfl) (by kernel_rfl) (zc rfl) (cE_eq _).symm rfl (zj _),
  b_con (pan:=false) (zZ IH x16 args v20 e20 s21 s22 s23),
  zh (zkU v10 v20 v24 e24 s25 s26),
  zh (qR v24 v27 e27),
  e_un (zb rfl) (zb rfl) (fun W=>by rw [← e28];exact r_not W),
  e_fbv h29,
  trivial⟩ mixed (by kernel_rfl))
theorem zoF {w0:World} (e:Xp) (args:(List Int)) (N:Nat) (IH:zY w0 args N) (v1:Bool) (v3:Bool) (n5:Nat) (x6:Xp) (v10:Int) (n15:Nat) (x16:Xp) (v20:Int) (e1:((e.op == (1:Int)))=v1) (e3:((e.op == (2:Int)))=v3) (e10:((evalX args x6).getD 0)=v10) (e20:((3:Int))=v20) (h2:v1=false) (h4:v3=false) (s7:(0:Int)=(n5:Int)) (s8:e.l[n5]?=some x6) (h9:(evalX args x6).isSome=true) (s11:(evalX args x6).isSome=true) (s12:Vx args.length x6) (s13:nodes x6≤N) (h14:(e.op == (3:Int))=true) (s17:(1:Int)=(n15:Int)) (s18:e.l[n15]?=some x16) (h19:(evalX args x16).isSome=false) (s21:(evalX args x16).isSome=false) (s22:Vx args.length x16) (s23:nodes x16≤N):BFun true (KN w0) Tryz.prog 63 [.o (.g [.d (pI e.op),.d (pI e.n),.d (pLs cE e.l)]),.o (.c (.p 0 0)),.o (.c (.p 1 0)),.o (.c (.p 2 0))] [(22,[.d (pLs cI args)]),(89,[.q 63 [(0,0),(1,0),(2,0)]]),(88,[.d (pM)])] (.o (.c (.d (pV (.iface 44 (.int .i64 v20)))))) [(22,[.d (pLs cI args)]),(89,[.q 63 [(0,0),(1,0),(2,0)]]),(88,[.d (pM)])] :=
 con_b (pan:=true) (qg (F:=FL [pI e.op,pI e.n,pLs cE e.l,pLs cI args,pM,pB v1,pB v3,pP (cE x6),pI x6.op,pI x6.n,pLs cE x6.l,pI v10,pP (cE x16),pI x16.op,pI x16.n,pLs cE x16.l,pV (.iface 44 (.int .i64 v20))] []) (C:=[(1000007,.bin .eql 3 (yh 0) (LF (.k (.int .i64 1))) (yh 5)),
  (10005,.fb 5 false),
  (1000009,.bin .eql 3 (yh 0) (LF (.k (.int .i64 2))) (yh 6)),
  (10006,.fb 6 false),
  (1000014,.op (.ia 29) [yh 2,LF (.k (.int .i64 0))] [] (yh 7)),
  (1000015,.op (.ld 32) [yh 7] [] (.o (.g [.h 8,.h 9,.h 10]))),
  (1000016,.call ⟨63,[.o (.g [.h 8,.h 9,.h 10]),.o (.c (.p 900 0)),.o (.c (.p 901 0)),.o (.c (.p 902 0))],[.bx 900 22 [.h 3],.bx 901 89 [.q 63 [(900,0),(901,0),(902,0)]],.bx 902 88 [.h 4]],yh 11,[.bx 900 22 [.h 3],.bx 901 89 [.q 63 [(900,0),(901,0),(902,0)]],.bx 902 88 [.h 4]]⟩),
  (1000021,.op (.lk 88 false) [yh 4,yh 0] [] (LF (.q 58 []))),
  (1000026,.op (.ia 29) [yh 2,LF (.k (.int .i64 1))] [] (yh 12)),
  (1000027,.op (.ld 32) [yh 12] [] (.o (.g [.h 13,.h 14,.h 15]))),
  (1000028,.pan ⟨63,[.o (.g [.h 13,.h 14,.h 15]),.o (.c (.p 900 0)),.o (.c (.p 901 0)),.o (.c (.p 902 0))],[.bx 900 22 [.h 3],.bx 901 89 [.q 63 [(900,0),(901,0),(902,0)]],.bx 902 88 [.h 4]],yh 16,[.bx 900 22 [.h 3],.bx 901 89 [.q 63 [(900,0),(901,0),(902,0)]],.bx 902 88 [.h 4]]⟩)]) (k:=⟨63,[.o (.g [.h 0,.h 1,.h 2]),.o (.c (.p 900 0)),.o (.c (.p 901 0)),.o (.c (.p 902 0))],[.bx 900 22 [.h 3],.bx 901 89 [.q 63 [(900,0),(901,0),(902,0)]],.bx 902 88 [.h 4]],yh 16,[.bx 900 22 [.h 3],.bx 901 89 [.q 63 [(900,0),(901,0),(902,0)]],.bx 902 88 [.h 4]]⟩) ⟨[],[],0⟩ [] 0 (zg ⟨za,za,(ze (zf rfl)),(ze zt),zR,za,za,(zl ((zf rfl) _)),za,za,(ze (zf rfl)),za,(zl ((zf rfl) _)),za,za,(ze (zf rfl)),za,trivial⟩) ⟨e_bin (zb rfl) zd (zb rfl) (r_cmp (congrArg some e1)),
  e_fbv h2,
  e_bin (zb rfl) zd (zb rfl) (r_cmp (congrArg some e3)),
  e_fbv h4,
  e_iaL (E:=32) (z:=3) zj (by kernel_rfl) (by kernel_rfl) (zc rfl) zd s7 s8 (zc rfl),
  e_ldG (by kernel_rfl) (by kernel_rfl) (zc rfl) (cE_eq _).symm rfl (zj _),
  b_con (pan:=false) (zZ IH x6 args v10 e10 s11 s12 s13),
  e_lk (zc rfl) (zb (show pI e.op=pV (.int .i64 3) by rw [eq_of_beq h14])) find3,
  e_iaL (E:=32) (z:=3) zj (by kernel_rfl) (by kernel_rfl) (zc rfl) zd s17 s18 (zc rfl),
  e_ldG (by kernel_rfl) (by kernel_rfl) (zc rfl) (cE_eq _).symm rfl (zj _),
  b_con (pan:=true) (zbG IH x16 args v20 e20 s21 s22 s23),
  trivial⟩ mixed trivial (fun _ _ _ _ _ hs=>by cases hs) (by kernel_rfl))
theorem zoG {w0:World} (e:Xp) (args:(List Int)) (N:Nat) (IH:zY w0 args N) (v1:Bool) (v3:Bool) (n5:Nat) (x6:Xp) (v10:Int) (n16:Nat) (x17:Xp) (v21:Int) (v25:Int) (v28:Bool) (v29:Bool) (v31:Int) (e1:((e.op == (1:Int)))=v1) (e3:((e.op == (2:Int)))=v3) (e10:((evalX args x6).getD 0)=v10) (e21:((evalX args x17).getD 0)=v21) (e25:(operX 4 v10 v21)=v25) (e28:(valB v25)=v28) (e29:(!v28)=v29) (e31:((3:Int))=v31) (h2:v1=false) (h4:v3=false) (s7:(0:Int)=(n5:Int)) (s8:e.l[n5]?=some x6) (h9:(evalX args x6).isSome=true) (s11:(evalX args x6).isSome=true) (s12:Vx args.length x6) (s13:nodes x6≤N) (h14:(e.op == (3:Int))=false) (h15:(e.op == (4:Int))=true) (s18:(1:Int)=(n16:Int)) (s19:e.l[n16]?=some x17) (h20:(evalX args x17).isSome=true) (s22:(evalX args x17).isSome=true) (s23:Vx args.length x17) (s24:nodes x17≤N) (s26:valB v10=true) (s27:valB v21=true) (h30:v29=true):BFun true (KN w0) Tryz.prog 63 [.o (.g [.d (pI e.op),.d (pI e.n),.d (pLs cE e.l)]),.o (.c (.p 0 0)),.o (.c (.p 1 0)),.o (.c (.p 2 0))] [(22,[.d (pLs cI args)]),(89,[.q 63 [(0,0),(1,0),(2,0)]]),(88,[.d (pM)])] (.o (.c (.d (pV (.iface 44 (.int .i64 v31)))))) [(22,[.d (pLs cI args)]),(89,[.q 63 [(0,0),(1,0),(2,0)]]),(88,[.d (pM)])] :=
 con_b (pan:=true) (qg (F:=FL [pI e.op,pI e.n,pLs cE e.l,pLs cI args,pM,pB v1,pB v3,pP (cE x6),pI x6.op,pI x6.n,pLs cE x6.l,pI v10,pP (cE x17),pI x17.op,pI x17.n,pLs cE x17.l,pI v21,pI v25,pB v28,pB v29,pV (.iface 44 (.int .i64 v31))] []) (C:=[(1000007,.bin .eql 3 (yh 0) (LF (.k (.int .i64 1))) (yh 5)),
  (10005,.fb 5 false),
  (1000009,.bin .eql 3 (yh 0) (LF (.k (.int .i64 2))) (yh 6)),
  (10006,.fb 6 false),
  (1000014,.op (.ia 29) [yh 2,LF (.k (.int .i64 0))] [] (yh 7)),
  (1000015,.op (.ld 32) [yh 7] [] (.o (.g [.h 8,.h 9,.h 10]))),
  (1000016,.call ⟨63,[.o (.g [.h 8,.h 9,.h 10]),.o (.c (.p 900 0)),.o (.c (.p 901 0)),.o (.c (.p 902 0))],[.bx 900 22 [.h 3],.bx 901 89 [.q 63 [(900,0),(901,0),(902,0)]],.bx 902 88 [.h 4]],yh 11,[.bx 900 22 [.h 3],.bx 901 89 [.q 63 [(900,0),(901,0),(902,0)]],.bx 902 88 [.h 4]]⟩),
  (1000021,.op (.lk 88 false) [yh 4,yh 0] [] (LF (.q 59 []))),
  (1000026,.op (.ia 29) [yh 2,LF (.k (.int .i64 1))] [] (yh 12)),
  (1000027,.op (.ld 32) [yh 12] [] (.o (.g [.h 13,.h 14,.h 15]))),
  (1000028,.call ⟨63,[.o (.g [.h 13,.h 14,.h 15]),.o (.c (.p 900 0)),.o (.c (.p 901 0)),.o (.c (.p 902 0))],[.bx 900 22 [.h 3],.bx 901 89 [.q 63 [(900,0),(901,0),(902,0)]],.bx 902 88 [.h 4]],yh 16,[.bx 900 22 [.h 3],.bx 901 89 [.q 63 [(900,0),(901,0),(902,0)]],.bx 902 88 [.h 4]]⟩),
  (1000029,.call ⟨59,[yh 11,yh 16],[],yh 17,[]⟩),
  (1000032,.call ⟨64,[yh 17],[],yh 18,[]⟩),
  (1000033,.un .not (yh 18) (yh 19)),
  (10019,.fb 19 true),
  (1000034,.pan ⟨25,[.o (.c (.k (.int .i64 3)))],[],yh 20,[]⟩)]) (k:=⟨63,[.o (.g [.h 0,.h 1,.h 2]),.o (.c (.p 900 0)),.o (.c (.p 901 0)),.o (.c (.p 902 0))],[.bx 900 22 [.h 3],.bx 901 89 [.q 63 [(900,0),(901,0),(902,0)]],.bx 902 88 [.h 4]],yh 20,[.bx 900 22 [.h 3],.bx 901 89 [.q 63 [(900,0),(901,0),(902,0)]],.bx 902 88 [.h 4]]⟩) ⟨[],[],0⟩ [] 0 (zg ⟨za,za,(ze (zf rfl)),(ze zt),zR,za,za,(zl ((zf rfl) _)),za,za,(ze (zf rfl)),za,(zl ((zf rfl) _)),za,za,(ze (zf rfl)),za,za,za,za,za,trivial⟩) ⟨e_bin (zb rfl) zd (zb rfl) (r_cmp (congrArg some e1)),
  e_fbv h2,
  e_bin (zb rfl) zd (zb rfl) (r_cmp (congrArg some e3)),
  e_fbv h4,
  e_iaL (E:=32) (z:=3) zj (by kernel_rfl) (by kernel_rfl) (zc rfl) zd s7 s8 (zc rfl),
  e_ldG (by kernel_rfl) (by kernel_rfl) (zc rfl) (cE_eq _).symm rfl (zj _),
  b_con (pan:=false) (zZ IH x6 args v10 e10 s11 s12 s13),
  e_lk (zc rfl) (zb (show pI e.op=pV (.int .i64 4) by rw [eq_of_beq h15])) find4,
  e_iaL (E:=32) (z:=3) zj (by kernel_rfl) (by kernel_rfl) (zc rfl) zd s18 s19 (zc rfl),
  e_ldG (by kernel_rfl) (by kernel_rfl) (zc rfl) (cE_eq _).symm rfl (zj _),
  b_con (pan:=false) (zZ IH x17 args v21 e21 s22 s23 s24),
  zh (zkV v10 v21 v25 e25 s26 s27),
  zh (qR v25 v28 e28),
  e_un (zb rfl) (zb rfl) (fun W=>by rw [← e29];exact r_not W),
  e_fbv h30,
  b_con (pan:=true) (zaD (3:Int) v31 e31),
  trivial⟩ mixed trivial (fun _ _ _ _ _ hs=>by cases hs) (by kernel_rfl))
theorem zoH {w0:World} (e:Xp) (args:(List Int)) (N:Nat) (IH:zY w0 args N) (v1:Bool) (v3:Bool) (n5:Nat) (x6:Xp) (v10:Int) (n16:Nat) (x17:Xp) (v21:Int) (v25:Int) (v28:Bool) (v29:Bool) (e1:((e.op == (1:Int)))=v1) (e3:((e.op == (2:Int)))=v3) (e10:((evalX args x6).getD 0)=v10) (e21:((evalX args x17).getD 0)=v21) (e25:(operX 4 v10 v21)=v25) (e28:(valB v25)=v28) (e29:(!v28)=v29) (h2:v1=false) (h4:v3=false) (s7:(0:Int)=(n5:Int)) (s8:e.l[n5]?=some x6) (h9:(evalX args x6).isSome=true) (s11:(evalX args x6).isSome=true) (s12:Vx args.length x6) (s13:nodes x6≤N) (h14:(e.op == (3:Int))=false) (h15:(e.op == (4:Int))=true) (s18:(1:Int)=(n16:Int)) (s19:e.l[n16]?=some x17) (h20:(evalX args x17).isSome=true) (s22:(evalX args x17).isSome=true) (s23:Vx args.length x17) (s24:nodes x17≤N) (s26:valB v10=true) (s27:valB v21=true) (h30:v29=false):BFun false (KN w0) Tryz.prog 63 [.o (.g [.d (pI e.op),.d (pI e.n),.d (pLs cE e.l)]),.o (.c (.p 0 0)),.o (.c (.p 1 0)),.o (.c (.p 2 0))] [(22,[.d (pLs cI args)]),(89,[.q 63 [(0,0),(1,0),(2,0)]]),(88,[.d (pM)])] (.o (.c (.d (pI v25)))) [(22,[.d (pLs cI args)]),(89,[.q 63 [(0,0),(1,0),(2,0)]]),(88,[.d (pM)])] :=
 con_b (pan:=false) (zr (F:=FL [pI e.op,pI e.n,pLs cE e.l,pLs cI args,pM,pB v1,pB v3,pP (cE x6),pI x6.op,pI x6.n,pLs cE x6.l,pI v10,pP (cE x17),pI x17.op,pI x17.n,pLs cE x17.l,pI v21,pI v25,pB v28,pB v29] []) (C:=[(1000007,.bin .eql 3 (yh 0) (LF (.k (.int .i64 1))) (yh 5)),
  (10005,.fb 5 false),
  (1000009,.bin .eql 3 (yh 0) (LF (.k (.int .i64 2))) (yh 6)),
  (10006,.fb 6 false),
  (1000014,.op (.ia 29) [yh 2,LF (.k (.int .i64 0))] [] (yh 7)),
  (1000015,.op (.ld 32) [yh 7] [] (.o (.g [.h 8,.h 9,.h 10]))),
  (1000016,.call ⟨63,[.o (.g [.h 8,.h 9,.h 10]),.o (.c (.p 900 0)),.o (.c (.p 901 0)),.o (.c (.p 902 0))],[.bx 900 22 [.h 3],.bx 901 89 [.q 63 [(900,0),(901,0),(902,0)]],.bx 902 88 [.h 4]],yh 11,[.bx 900 22 [.h 3],.bx 901 89 [.q 63 [(900,0),(901,0),(902,0)]],.bx 902 88 [.h 4]]⟩),
  (1000021,.op (.lk 88 false) [yh 4,yh 0] [] (LF (.q 59 []))),
  (1000026,.op (.ia 29) [yh 2,LF (.k (.int .i64 1))] [] (yh 12)),
  (1000027,.op (.ld 32) [yh 12] [] (.o (.g [.h 13,.h 14,.h 15]))),
  (1000028,.call ⟨63,[.o (.g [.h 13,.h 14,.h 15]),.o (.c (.p 900 0)),.o (.c (.p 901 0)),.o (.c (.p 902 0))],[.bx 900 22 [.h 3],.bx 901 89 [.q 63 [(900,0),(901,0),(902,0)]],.bx 902 88 [.h 4]],yh 16,[.bx 900 22 [.h 3],.bx 901 89 [.q 63 [(900,0),(901,0),(902,0)]],.bx 902 88 [.h 4]]⟩),
  (1000029,.call ⟨59,[yh 11,yh 16],[],yh 17,[]⟩),
  (1000032,.call ⟨64,[yh 17],[],yh 18,[]⟩),
  (1000033,.un .not (yh 18) (yh 19)),
  (10019,.fb 19 false)]) (k:=⟨63,[.o (.g [.h 0,.h 1,.h 2]),.o (.c (.p 900 0)),.o (.c (.p 901 0)),.o (.c (.p 902 0))],[.bx 900 22 [.h 3],.bx 901 89 [.q 63 [(900,0),(901,0),(902,0)]],.bx 902 88 [.h 4]],yh 17,[.bx 900 22 [.h 3],.bx 901 89 [.q 63 [(900,0),(901,0),(902,0)]],.bx 902 88 [.h 4]]⟩) 0 (zg ⟨za,za,(ze (zf rfl)),(ze zt),zR,za,za,(zl ((zf rfl) _)),za,za,(ze (zf rfl)),za,(zl ((zf rfl) _)),za,za,(ze (zf rfl)),za,za,za,za,trivial⟩) ⟨e_bin (zb rfl) zd (zb rfl) (r_cmp (congrArg some e1)),
  e_fbv h2,
  e_bin (zb rfl) zd (zb rfl) (r_cmp (congrArg some e3)),
  e_fbv h4,
  e_iaL (E:=32) (z:=3) zj (by kernel_rfl) (by kernel_rfl) (zc rfl) zd s7 s8 (zc rfl),
  e_ldG (by kernel_rfl) (by kernel_rfl) (zc rfl) (cE_eq _).symm rfl (zj _),
  b_con (pan:=false) (zZ IH x6 args v10 e10 s11 s12 s13),
  e_lk (zc rfl) (zb (show pI e.op=pV (.int .i64 4) by rw [eq_of_beq h15])) find4,
  e_iaL (E:=32) (z:=3) zj (by kernel_rfl) (by kernel_rfl) (zc rfl) zd s18 s19 (zc rfl),
  e_ldG (by kernel_rfl) (by kernel_rfl) (zc rfl) (cE_eq _).symm rfl (zj _),
  b_con (pan:=false) (zZ IH x17 args v21 e21 s22 s23 s24),
  zh (zkV v10 v21 v25 e25 s26 s27),
  zh (qR v25 v28 e28),
  e_un (zb rfl) (zb rfl) (fun W=>by rw [← e29];exact r_not W),
  e_fbv h30,
  trivial⟩ mixed (by kernel_rfl))
theorem zoI {w0:World} (e:Xp) (args:(List Int)) (N:Nat) (IH:zY w0 args N) (v1:Bool) (v3:Bool) (n5:Nat) (x6:Xp) (v10:Int) (n16:Nat) (x17:Xp) (v21:Int) (e1:((e.op == (1:Int)))=v1) (e3:((e.op == (2:Int)))=v3) (e10:((evalX args x6).getD 0)=v10) (e21:((3:Int))=v21) (h2:v1=false) (h4:v3=false) (s7:(0:Int)=(n5:Int)) (s8:e.l[n5]?=some x6) (h9:(evalX args x6).isSome=true) (s11:(evalX args x6).isSome=true) (s12:Vx args.length x6) (s13:nodes x6≤N) (h14:(e.op == (3:Int))=false) (h15:(e.op == (4:Int))=true) (s18:(1:Int)=(n16:Int)) (s19:e.l[n16]?=some x17) (h20:(evalX args x17).isSome=false) (s22:(evalX args x17).isSome=false) (s23:Vx args.length x17) (s24:nodes x17≤N):BFun true (KN w0) Tryz.prog 63 [.o (.g [.d (pI e.op),.d (pI e.n),.d (pLs cE e.l)]),.o (.c (.p 0 0)),.o (.c (.p 1 0)),.o (.c (.p 2 0))] [(22,[.d (pLs cI args)]),(89,[.q 63 [(0,0),(1,0),(2,0)]]),(88,[.d (pM)])] (.o (.c (.d (pV (.iface 44 (.int .i64 v21)))))) [(22,[.d (pLs cI args)]),(89,[.q 63 [(0,0),(1,0),(2,0)]]),(88,[.d (pM)])] :=
 con_b (pan:=true) (qg (F:=FL [pI e.op,pI e.n,pLs cE e.l,pLs cI args,pM,pB v1,pB v3,pP (cE x6),pI x6.op,pI x6.n,pLs cE x6.l,pI v10,pP (cE x17),pI x17.op,pI x17.n,pLs cE x17.l,pV (.iface 44 (.int .i64 v21))] []) (C:=[(1000007,.bin .eql 3 (yh 0) (LF (.k (.int .i64 1))) (yh 5)),
  (10005,.fb 5 false),
  (1000009,.bin .eql 3 (yh 0) (LF (.k (.int .i64 2))) (yh 6)),
  (10006,.fb 6 false),
  (1000014,.op (.ia 29) [yh 2,LF (.k (.int .i64 0))] [] (yh 7)),
  (1000015,.op (.ld 32) [yh 7] [] (.o (.g [.h 8,.h 9,.h 10]))),
  (1000016,.call ⟨63,[.o (.g [.h 8,.h 9,.h 10]),.o (.c (.p 900 0)),.o (.c (.p 901 0)),.o (.c (.p 902 0))],[.bx 900 22 [.h 3],.bx 901 89 [.q 63 [(900,0),(901,0),(902,0)]],.bx 902 88 [.h 4]],yh 11,[.bx 900 22 [.h 3],.bx 901 89 [.q 63 [(900,0),(901,0),(902,0)]],.bx 902 88 [.h 4]]⟩),
  (1000021,.op (.lk 88 false) [yh 4,yh 0] [] (LF (.q 59 []))),
  (1000026,.op (.ia 29) [yh 2,LF (.k (.int .i64 1))] [] (yh 12)),
  (1000027,.op (.ld 32) [yh 12] [] (.o (.g [.h 13,.h 14,.h 15]))),
  (1000028,.pan ⟨63,[.o (.g [.h 13,.h 14,.h 15]),.o (.c (.p 900 0)),.o (.c (.p 901 0)),.o (.c (.p 902 0))],[.bx 900 22 [.h 3],.bx 901 89 [.q 63 [(900,0),(901,0),(902,0)]],.bx 902 88 [.h 4]],yh 16,[.bx 900 22 [.h 3],.bx 901 89 [.q 63 [(900,0),(901,0),(902,0)]],.bx 902 88 [.h 4]]⟩)]) (k:=⟨63,[.o (.g [.h 0,.h 1,.h 2]),.o (.c (.p 900 0)),.o (.c (.p 901 0)),.o (.c (.p 902 0))],[.bx 900 22 [.h 3],.bx 901 89 [.q 63 [(900,0),(901,0),(902,0)]],.bx 902 88 [.h 4]],yh 16,[.bx 900 22 [.h 3],.bx 901 89 [.q 63 [(900,0),(901,0),(902,0)]],.bx 902 88 [.h 4]]⟩) ⟨[],[],0⟩ [] 0 (zg ⟨za,za,(ze (zf rfl)),(ze zt),zR,za,za,(zl ((zf rfl) _)),za,za,(ze (zf rfl)),za,(zl ((zf rfl) _)),za,za,(ze (zf rfl)),za,trivial⟩) ⟨e_bin (zb rfl) zd (zb rfl) (r_cmp (congrArg some e1)),
  e_fbv h2,
  e_bin (zb rfl) zd (zb rfl) (r_cmp (congrArg some e3)),
  e_fbv h4,
  e_iaL (E:=32) (z:=3) zj (by kernel_rfl) (by kernel_rfl) (zc rfl) zd s7 s8 (zc rfl),
  e_ldG (by kernel_rfl) (by kernel_rfl) (zc rfl) (cE_eq _).symm rfl (zj _),
  b_con (pan:=false) (zZ IH x6 args v10 e10 s11 s12 s13),
  e_lk (zc rfl) (zb (show pI e.op=pV (.int .i64 4) by rw [eq_of_beq h15])) find4,
  e_iaL (E:=32) (z:=3) zj (by kernel_rfl) (by kernel_rfl) (zc rfl) zd s18 s19 (zc rfl),
  e_ldG (by kernel_rfl) (by kernel_rfl) (zc rfl) (cE_eq _).symm rfl (zj _),
  b_con (pan:=true) (zbG IH x17 args v21 e21 s22 s23 s24),
  trivial⟩ mixed trivial (fun _ _ _ _ _ hs=>by cases hs) (by kernel_rfl))
theorem zmJ {w0:World} (e:Xp) (args:(List Int)) (N:Nat) (IH:zY w0 args N) (v1:Bool) (v3:Bool) (n5:Nat) (x6:Xp) (v10:Int) (n17:Nat) (x18:Xp) (v22:Int) (v26:Int) (v29:Bool) (v30:Bool) (v32:Int) (e1:((e.op == (1:Int)))=v1) (e3:((e.op == (2:Int)))=v3) (e10:((evalX args x6).getD 0)=v10) (e22:((evalX args x18).getD 0)=v22) (e26:(operX 5 v10 v22)=v26) (e29:(valB v26)=v29) (e30:(!v29)=v30) (e32:((3:Int))=v32) (h2:v1=false) (h4:v3=false) (s7:(0:Int)=(n5:Int)) (s8:e.l[n5]?=some x6) (h9:(evalX args x6).isSome=true) (s11:(evalX args x6).isSome=true) (s12:Vx args.length x6) (s13:nodes x6≤N) (h14:(e.op == (3:Int))=false) (h15:(e.op == (4:Int))=false) (h16:(e.op == (5:Int))=true) (s19:(1:Int)=(n17:Int)) (s20:e.l[n17]?=some x18) (h21:(evalX args x18).isSome=true) (s23:(evalX args x18).isSome=true) (s24:Vx args.length x18) (s25:nodes x18≤N) (s27:valB v10=true) (s28:valB v22=true) (h31:v30=true):BFun true (KN w0) Tryz.prog 63 [.o (.g [.d (pI e.op),.d (pI e.n),.d (pLs cE e.l)]),.o (.c (.p 0 0)),.o (.c (.p 1 0)),.o (.c (.p 2 0))] [(22,[.d (pLs cI args)]),(89,[.q 63 [(0,0),(1,0),(2,0)]]),(88,[.d (pM)])] (.o (.c (.d (pV (.iface 44 (.int .i64 v32)))))) [(22,[.d (pLs cI args)]),(89,[.q 63 [(0,0),(1,0),(2,0)]]),(88,[.d (pM)])] :=
 con_b (pan:=true) (qg (F:=FL [pI e.op,pI e.n,pLs cE e.l,pLs cI args,pM,pB v1,pB v3,pP (cE x6),pI x6.op,pI x6.n,pLs cE x6.l,pI v10,pP (cE x18),pI x18.op,pI x18.n,pLs cE x18.l,pI v22,pI v26,pB v29,pB v30,pV (.iface 44 (.int .i64 v32))] []) (C:=[(1000007,.bin .eql 3 (yh 0) (LF (.k (.int .i64 1))) (yh 5)),
  (10005,.fb 5 false),
  (1000009,.bin .eql 3 (yh 0) (LF (.k (.int .i64 2))) (yh 6)),
  (10006,.fb 6 false),
  (1000014,.op (.ia 29) [yh 2,LF (.k (.int .i64 0))] [] (yh 7)),
  (1000015,.op (.ld 32) [yh 7] [] (.o (.g [.h 8,.h 9,.h 10]))),
  (1000016,.call ⟨63,[.o (.g [.h 8,.h 9,.h 10]),.o (.c (.p 900 0)),.o (.c (.p 901 0)),.o (.c (.p 902 0))],[.bx 900 22 [.h 3],.bx 901 89 [.q 63 [(900,0),(901,0),(902,0)]],.bx 902 88 [.h 4]],yh 11,[.bx 900 22 [.h 3],.bx 901 89 [.q 63 [(900,0),(901,0),(902,0)]],.bx 902 88 [.h 4]]⟩),
  (1000021,.op (.lk 88 false) [yh 4,yh 0] [] (LF (.q 60 []))),
  (1000026,.op (.ia 29) [yh 2,LF (.k (.int .i64 1))] [] (yh 12)),
  (1000027,.op (.ld 32) [yh 12] [] (.o (.g [.h 13,.h 14,.h 15]))),
  (1000028,.call ⟨63,[.o (.g [.h 13,.h 14,.h 15]),.o (.c (.p 900 0)),.o (.c (.p 901 0)),.o (.c (.p 902 0))],[.bx 900 22 [.h 3],.bx 901 89 [.q 63 [(900,0),(901,0),(902,0)]],.bx 902 88 [.h 4]],yh 16,[.bx 900 22 [.h 3],.bx 901 89 [.q 63 [(900,0),(901,0),(902,0)]],.bx 902 88 [.h 4]]⟩),
  (1000029,.call ⟨60,[yh 11,yh 16],[],yh 17,[]⟩),
  (1000032,.call ⟨64,[yh 17],[],yh 18,[]⟩),
  (1000033,.un .not (yh 18) (yh 19)),
  (10019,.fb 19 true),
  (1000034,.pan ⟨25,[.o (.c (.k (.int .i64 3)))],[],yh 20,[]⟩)]) (k:=⟨63,[.o (.g [.h 0,.h 1,.h 2]),.o (.c (.p 900 0)),.o (.c (.p 901 0)),.o (.c (.p 902 0))],[.bx 900 22 [.h 3],.bx 901 89 [.q 63 [(900,0),(901,0),(902,0)]],.bx 902 88 [.h 4]],yh 20,[.bx 900 22 [.h 3],.bx 901 89 [.q 63 [(900,0),(901,0),(902,0)]],.bx 902 88 [.h 4]]⟩) ⟨[],[],0⟩ [] 0 (zg ⟨za,za,(ze (zf rfl)),(ze zt),zR,za,za,(zl ((zf rfl) _)),za,za,(ze (zf rfl)),za,(zl ((zf rfl) _)),za,za,(ze (zf rfl)),za,za,za,za,za,trivial⟩) ⟨e_bin (zb rfl) zd (zb rfl) (r_cmp (congrArg some e1)),
  e_fbv h2,
  e_bin (zb rfl) zd (zb rfl) (r_cmp (congrArg some e3)),
  e_fbv h4,
  e_iaL (E:=32) (z:=3) zj (by kernel_rfl) (by kernel_rfl) (zc rfl) zd s7 s8 (zc rfl),
  e_ldG (by kernel_rfl) (by kernel_rfl) (zc rfl) (cE_eq _).symm rfl (zj _),
  b_con (pan:=false) (zZ IH x6 args v10 e10 s11 s12 s13),
  e_lk (zc rfl) (zb (show pI e.op=pV (.int .i64 5) by rw [eq_of_beq h16])) find5,
  e_iaL (E:=32) (z:=3) zj (by kernel_rfl) (by kernel_rfl) (zc rfl) zd s19 s20 (zc rfl),
  e_ldG (by kernel_rfl) (by kernel_rfl) (zc rfl) (cE_eq _).symm rfl (zj _),
  b_con (pan:=false) (zZ IH x18 args v22 e22 s23 s24 s25),
  zh (zkW v10 v22 v26 e26 s27 s28),
  zh (qR v26 v29 e29),
  e_un (zb rfl) (zb rfl) (fun W=>by rw [← e30];exact r_not W),
  e_fbv h31,
  b_con (pan:=true) (zaD (3:Int) v32 e32),
  trivial⟩ mixed trivial (fun _ _ _ _ _ hs=>by cases hs) (by kernel_rfl))
theorem zmK {w0:World} (e:Xp) (args:(List Int)) (N:Nat) (IH:zY w0 args N) (v1:Bool) (v3:Bool) (n5:Nat) (x6:Xp) (v10:Int) (n17:Nat) (x18:Xp) (v22:Int) (v26:Int) (v29:Bool) (v30:Bool) (e1:((e.op == (1:Int)))=v1) (e3:((e.op == (2:Int)))=v3) (e10:((evalX args x6).getD 0)=v10) (e22:((evalX args x18).getD 0)=v22) (e26:(operX 5 v10 v22)=v26) (e29:(valB v26)=v29) (e30:(!v29)=v30) (h2:v1=false) (h4:v3=false) (s7:(0:Int)=(n5:Int)) (s8:e.l[n5]?=some x6) (h9:(evalX args x6).isSome=true) (s11:(evalX args x6).isSome=true) (s12:Vx args.length x6) (s13:nodes x6≤N) (h14:(e.op == (3:Int))=false) (h15:(e.op == (4:Int))=false) (h16:(e.op == (5:Int))=true) (s19:(1:Int)=(n17:Int)) (s20:e.l[n17]?=some x18) (h21:(evalX args x18).isSome=true) (s23:(evalX args x18).isSome=true) (s24:Vx args.length x18) (s25:nodes x18≤N) (s27:valB v10=true) (s28:valB v22=true) (h31:v30=false):BFun false (KN w0) Tryz.prog 63 [.o (.g [.d (pI e.op),.d (pI e.n),.d (pLs cE e.l)]),.o (.c (.p 0 0)),.o (.c (.p 1 0)),.o (.c (.p 2 0))] [(22,[.d (pLs cI args)]),(89,[.q 63 [(0,0),(1,0),(2,0)]]),(88,[.d (pM)])] (.o (.c (.d (pI v26)))) [(22,[.d (pLs cI args)]),(89,[.q 63 [(0,0),(1,0),(2,0)]]),(88,[.d (pM)])] :=
 con_b (pan:=false) (zr (F:=FL [pI e.op,pI e.n,pLs cE e.l,pLs cI args,pM,pB v1,pB v3,pP (cE x6),pI x6.op,pI x6.n,pLs cE x6.l,pI v10,pP (cE x18),pI x18.op,pI x18.n,pLs cE x18.l,pI v22,pI v26,pB v29,pB v30] []) (C:=[(1000007,.bin .eql 3 (yh 0) (LF (.k (.int .i64 1))) (yh 5)),
  (10005,.fb 5 false),
  (1000009,.bin .eql 3 (yh 0) (LF (.k (.int .i64 2))) (yh 6)),
  (10006,.fb 6 false),
  (1000014,.op (.ia 29) [yh 2,LF (.k (.int .i64 0))] [] (yh 7)),
  (1000015,.op (.ld 32) [yh 7] [] (.o (.g [.h 8,.h 9,.h 10]))),
  (1000016,.call ⟨63,[.o (.g [.h 8,.h 9,.h 10]),.o (.c (.p 900 0)),.o (.c (.p 901 0)),.o (.c (.p 902 0))],[.bx 900 22 [.h 3],.bx 901 89 [.q 63 [(900,0),(901,0),(902,0)]],.bx 902 88 [.h 4]],yh 11,[.bx 900 22 [.h 3],.bx 901 89 [.q 63 [(900,0),(901,0),(902,0)]],.bx 902 88 [.h 4]]⟩),
  (1000021,.op (.lk 88 false) [yh 4,yh 0] [] (LF (.q 60 []))),
  (1000026,.op (.ia 29) [yh 2,LF (.k (.int .i64 1))] [] (yh 12)),
  (1000027,.op (.ld 32) [yh 12] [] (.o (.g [.h 13,.h 14,.h 15]))),
  (1000028,.call ⟨63,[.o (.g [.h 13,.h 14,.h 15]),.o (.c (.p 900 0)),.o (.c (.p 901 0)),.o (.c (.p 902 0))],[.bx 900 22 [.h 3],.bx 901 89 [.q 63 [(900,0),(901,0),(902,0)]],.bx 902 88 [.h 4]],yh 16,[.bx 900 22 [.h 3],.bx 901 89 [.q 63 [(900,0),(901,0),(902,0)]],.bx 902 88 [.h 4]]⟩),
  (1000029,.call ⟨60,[yh 11,yh 16],[],yh 17,[]⟩),
  (1000032,.call ⟨64,[yh 17],[],yh 18,[]⟩),
  (1000033,.un .not (yh 18) (yh 19)),
  (10019,.fb 19 false)]) (k:=⟨63,[.o (.g [.h 0,.h 1,.h 2]),.o (.c (.p 900 0)),.o (.c (.p 901 0)),.o (.c (.p 902 0))],[.bx 900 22 [.h 3],.bx 901 89 [.q 63 [(900,0),(901,0),(902,0)]],.bx 902 88 [.h 4]],yh 17,[.bx 900 22 [.h 3],.bx 901 89 [.q 63 [(900,0),(901,0),(902,0)]],.bx 902 88 [.h 4]]⟩) 0 (zg ⟨za,za,(ze (zf rfl)),(ze zt),zR,za,za,(zl ((zf rfl) _)),za,za,(ze (zf rfl)),za,(zl ((zf rfl) _)),za,za,(ze (zf rfl)),za,za,za,za,trivial⟩) ⟨e_bin (zb rfl) zd (zb rfl) (r_cmp (congrArg some e1)),
  e_fbv h2,
  e_bin (zb rfl) zd (zb rfl) (r_cmp (congrArg some e3)),
  e_fbv h4,
  e_iaL (E:=32) (z:=3) zj (by kernel_rfl) (by kernel_rfl) (zc rfl) zd s7 s8 (zc rfl),
  e_ldG (by kernel_rfl) (by kernel_rfl) (zc rfl) (cE_eq _).symm rfl (zj _),
  b_con (pan:=false) (zZ IH x6 args v10 e10 s11 s12 s13),
  e_lk (zc rfl) (zb (show pI e.op=pV (.int .i64 5) by rw [eq_of_beq h16])) find5,
  e_iaL (E:=32) (z:=3) zj (by kernel_rfl) (by kernel_rfl) (zc rfl) zd s19 s20 (zc rfl),
  e_ldG (by kernel_rfl) (by kernel_rfl) (zc rfl) (cE_eq _).symm rfl (zj _),
  b_con (pan:=false) (zZ IH x18 args v22 e22 s23 s24 s25),
  zh (zkW v10 v22 v26 e26 s27 s28),
  zh (qR v26 v29 e29),
  e_un (zb rfl) (zb rfl) (fun W=>by rw [← e30];exact r_not W),
  e_fbv h31,
  trivial⟩ mixed (by kernel_rfl))
theorem zmL {w0:World} (e:Xp) (args:(List Int)) (N:Nat) (IH:zY w0 args N) (v1:Bool) (v3:Bool) (n5:Nat) (x6:Xp) (v10:Int) (n17:Nat) (x18:Xp) (v22:Int) (e1:((e.op == (1:Int)))=v1) (e3:((e.op == (2:Int)))=v3) (e10:((evalX args x6).getD 0)=v10) (e22:((3:Int))=v22) (h2:v1=false) (h4:v3=false) (s7:(0:Int)=(n5:Int)) (s8:e.l[n5]?=some x6) (h9:(evalX args x6).isSome=true) (s11:(evalX args x6).isSome=true) (s12:Vx args.length x6) (s13:nodes x6≤N) (h14:(e.op == (3:Int))=false) (h15:(e.op == (4:Int))=false) (h16:(e.op == (5:Int))=true) (s19:(1:Int)=(n17:Int)) (s20:e.l[n17]?=some x18) (h21:(evalX args x18).isSome=false) (s23:(evalX args x18).isSome=false) (s24:Vx args.length x18) (s25:nodes x18≤N):BFun true (KN w0) Tryz.prog 63 [.o (.g [.d (pI e.op),.d (pI e.n),.d (pLs cE e.l)]),.o (.c (.p 0 0)),.o (.c (.p 1 0)),.o (.c (.p 2 0))] [(22,[.d (pLs cI args)]),(89,[.q 63 [(0,0),(1,0),(2,0)]]),(88,[.d (pM)])] (.o (.c (.d (pV (.iface 44 (.int .i64 v22)))))) [(22,[.d (pLs cI args)]),(89,[.q 63 [(0,0),(1,0),(2,0)]]),(88,[.d (pM)])] :=
 con_b (pan:=true) (qg (F:=FL [pI e.op,pI e.n,pLs cE e.l,pLs cI args,pM,pB v1,pB v3,pP (cE x6),pI x6.op,pI x6.n,pLs cE x6.l,pI v10,pP (cE x18),pI x18.op,pI x18.n,pLs cE x18.l,pV (.iface 44 (.int .i64 v22))] []) (C:=[(1000007,.bin .eql 3 (yh 0) (LF (.k (.int .i64 1))) (yh 5)),
  (10005,.fb 5 false),
  (1000009,.bin .eql 3 (yh 0) (LF (.k (.int .i64 2))) (yh 6)),
  (10006,.fb 6 false),
  (1000014,.op (.ia 29) [yh 2,LF (.k (.int .i64 0))] [] (yh 7)),
  (1000015,.op (.ld 32) [yh 7] [] (.o (.g [.h 8,.h 9,.h 10]))),
  (1000016,.call ⟨63,[.o (.g [.h 8,.h 9,.h 10]),.o (.c (.p 900 0)),.o (.c (.p 901 0)),.o (.c (.p 902 0))],[.bx 900 22 [.h 3],.bx 901 89 [.q 63 [(900,0),(901,0),(902,0)]],.bx 902 88 [.h 4]],yh 11,[.bx 900 22 [.h 3],.bx 901 89 [.q 63 [(900,0),(901,0),(902,0)]],.bx 902 88 [.h 4]]⟩),
  (1000021,.op (.lk 88 false) [yh 4,yh 0] [] (LF (.q 60 []))),
  (1000026,.op (.ia 29) [yh 2,LF (.k (.int .i64 1))] [] (yh 12)),
  (1000027,.op (.ld 32) [yh 12] [] (.o (.g [.h 13,.h 14,.h 15]))),
  (1000028,.pan ⟨63,[.o (.g [.h 13,.h 14,.h 15]),.o (.c (.p 900 0)),.o (.c (.p 901 0)),.o (.c (.p 902 0))],[.bx 900 22 [.h 3],.bx 901 89 [.q 63 [(900,0),(901,0),(902,0)]],.bx 902 88 [.h 4]],yh 16,[.bx 900 22 [.h 3],.bx 901 89 [.q 63 [(900,0),(901,0),(902,0)]],.bx 902 88 [.h 4]]⟩)]) (k:=⟨63,[.o (.g [.h 0,.h 1,.h 2]),.o (.c (.p 900 0)),.o (.c (.p 901 0)),.o (.c (.p 902 0))],[.bx 900 22 [.h 3],.bx 901 89 [.q 63 [(900,0),(901,0),(902,0)]],.bx 902 88 [.h 4]],yh 16,[.bx 900 22 [.h 3],.bx 901 89 [.q 63 [(900,0),(901,0),(902,0)]],.bx 902 88 [.h 4]]⟩) ⟨[],[],0⟩ [] 0 (zg ⟨za,za,(ze (zf rfl)),(ze zt),zR,za,za,(zl ((zf rfl) _)),za,za,(ze (zf rfl)),za,(zl ((zf rfl) _)),za,za,(ze (zf rfl)),za,trivial⟩) ⟨e_bin (zb rfl) zd (zb rfl) (r_cmp (congrArg some e1)),
  e_fbv h2,
  e_bin (zb rfl) zd (zb rfl) (r_cmp (congrArg some e3)),
  e_fbv h4,
  e_iaL (E:=32) (z:=3) zj (by kernel_rfl) (by kernel_rfl) (zc rfl) zd s7 s8 (zc rfl),
  e_ldG (by kernel_rfl) (by kernel_rfl) (zc rfl) (cE_eq _).symm rfl (zj _),
  b_con (pan:=false) (zZ IH x6 args v10 e10 s11 s12 s13),
  e_lk (zc rfl) (zb (show pI e.op=pV (.int .i64 5) by rw [eq_of_beq h16])) find5,
  e_iaL (E:=32) (z:=3) zj (by kernel_rfl) (by kernel_rfl) (zc rfl) zd s19 s20 (zc rfl),
  e_ldG (by kernel_rfl) (by kernel_rfl) (zc rfl) (cE_eq _).symm rfl (zj _),
  b_con (pan:=true) (zbG IH x18 args v22 e22 s23 s24 s25),
  trivial⟩ mixed trivial (fun _ _ _ _ _ hs=>by cases hs) (by kernel_rfl))
theorem zmM {w0:World} (e:Xp) (args:(List Int)) (N:Nat) (IH:zY w0 args N) (v1:Bool) (v3:Bool) (n5:Nat) (x6:Xp) (v10:Int) (n18:Nat) (x19:Xp) (v23:Int) (v27:Int) (v30:Bool) (v31:Bool) (v33:Int) (e1:((e.op == (1:Int)))=v1) (e3:((e.op == (2:Int)))=v3) (e10:((evalX args x6).getD 0)=v10) (e23:((evalX args x19).getD 0)=v23) (e27:(operX 6 v10 v23)=v27) (e30:(valB v27)=v30) (e31:(!v30)=v31) (e33:((3:Int))=v33) (h2:v1=false) (h4:v3=false) (s7:(0:Int)=(n5:Int)) (s8:e.l[n5]?=some x6) (h9:(evalX args x6).isSome=true) (s11:(evalX args x6).isSome=true) (s12:Vx args.length x6) (s13:nodes x6≤N) (h14:(e.op == (3:Int))=false) (h15:(e.op == (4:Int))=false) (h16:(e.op == (5:Int))=false) (h17:(e.op == (6:Int))=true) (s20:(1:Int)=(n18:Int)) (s21:e.l[n18]?=some x19) (h22:(evalX args x19).isSome=true) (s24:(evalX args x19).isSome=true) (s25:Vx args.length x19) (s26:nodes x19≤N) (s28:valB v10=true) (s29:valB v23=true) (h32:v31=true):BFun true (KN w0) Tryz.prog 63 [.o (.g [.d (pI e.op),.d (pI e.n),.d (pLs cE e.l)]),.o (.c (.p 0 0)),.o (.c (.p 1 0)),.o (.c (.p 2 0))] [(22,[.d (pLs cI args)]),(89,[.q 63 [(0,0),(1,0),(2,0)]]),(88,[.d (pM)])] (.o (.c (.d (pV (.iface 44 (.int .i64 v33)))))) [(22,[.d (pLs cI args)]),(89,[.q 63 [(0,0),(1,0),(2,0)]]),(88,[.d (pM)])] :=
 con_b (pan:=true) (qg (F:=FL [pI e.op,pI e.n,pLs cE e.l,pLs cI args,pM,pB v1,pB v3,pP (cE x6),pI x6.op,pI x6.n,pLs cE x6.l,pI v10,pP (cE x19),pI x19.op,pI x19.n,pLs cE x19.l,pI v23,pI v27,pB v30,pB v31,pV (.iface 44 (.int .i64 v33))] []) (C:=[(1000007,.bin .eql 3 (yh 0) (LF (.k (.int .i64 1))) (yh 5)),
  (10005,.fb 5 false),
  (1000009,.bin .eql 3 (yh 0) (LF (.k (.int .i64 2))) (yh 6)),
  (10006,.fb 6 false),
  (1000014,.op (.ia 29) [yh 2,LF (.k (.int .i64 0))] [] (yh 7)),
  (1000015,.op (.ld 32) [yh 7] [] (.o (.g [.h 8,.h 9,.h 10]))),
  (1000016,.call ⟨63,[.o (.g [.h 8,.h 9,.h 10]),.o (.c (.p 900 0)),.o (.c (.p 901 0)),.o (.c (.p 902 0))],[.bx 900 22 [.h 3],.bx 901 89 [.q 63 [(900,0),(901,0),(902,0)]],.bx 902 88 [.h 4]],yh 11,[.bx 900 22 [.h 3],.bx 901 89 [.q 63 [(900,0),(901,0),(902,0)]],.bx 902 88 [.h 4]]⟩),
  (1000021,.op (.lk 88 false) [yh 4,yh 0] [] (LF (.q 61 []))),
  (1000026,.op (.ia 29) [yh 2,LF (.k (.int .i64 1))] [] (yh 12)),
  (1000027,.op (.ld 32) [yh 12] [] (.o (.g [.h 13,.h 14,.h 15]))),
  (1000028,.call ⟨63,[.o (.g [.h 13,.h 14,.h 15]),.o (.c (.p 900 0)),.o (.c (.p 901 0)),.o (.c (.p 902 0))],[.bx 900 22 [.h 3],.bx 901 89 [.q 63 [(900,0),(901,0),(902,0)]],.bx 902 88 [.h 4]],yh 16,[.bx 900 22 [.h 3],.bx 901 89 [.q 63 [(900,0),(901,0),(902,0)]],.bx 902 88 [.h 4]]⟩),
  (1000029,.call ⟨61,[yh 11,yh 16],[],yh 17,[]⟩),
  (1000032,.call ⟨64,[yh 17],[],yh 18,[]⟩),
  (1000033,.un .not (yh 18) (yh 19)),
  (10019,.fb 19 true),
  (1000034,.pan ⟨25,[.o (.c (.k (.int .i64 3)))],[],yh 20,[]⟩)]) (k:=⟨63,[.o (.g [.h 0,.h 1,.h 2]),.o (.c (.p 900 0)),.o (.c (.p 901 0)),.o (.c (.p 902 0))],[.bx 900 22 [.h 3],.bx 901 89 [.q 63 [(900,0),(901,0),(902,0)]],.bx 902 88 [.h 4]],yh 20,[.bx 900 22 [.h 3],.bx 901 89 [.q 63 [(900,0),(901,0),(902,0)]],.bx 902 88 [.h 4]]⟩) ⟨[],[],0⟩ [] 0 (zg ⟨za,za,(ze (zf rfl)),(ze zt),zR,za,za,(zl ((zf rfl) _)),za,za,(ze (zf rfl)),za,(zl ((zf rfl) _)),za,za,(ze (zf rfl)),za,za,za,za,za,trivial⟩) ⟨e_bin (zb rfl) zd (zb rfl) (r_cmp (congrArg some e1)),
  e_fbv h2,
  e_bin (zb rfl) zd (zb rfl) (r_cmp (congrArg some e3)),
  e_fbv h4,
  e_iaL (E:=32) (z:=3) zj (by kernel_rfl) (by kernel_rfl) (zc rfl) zd s7 s8 (zc rfl),
  e_ldG (by kernel_rfl) (by kernel_rfl) (zc rfl) (cE_eq _).symm rfl (zj _),
  b_con (pan:=false) (zZ IH x6 args v10 e10 s11 s12 s13),
  e_lk (zc rfl) (zb (show pI e.op=pV (.int .i64 6) by rw [eq_of_beq h17])) find6,
  e_iaL (E:=32) (z:=3) zj (by kernel_rfl) (by kernel_rfl) (zc rfl) zd s20 s21 (zc rfl),
  e_ldG (by kernel_rfl) (by kernel_rfl) (zc rfl) (cE_eq _).symm rfl (zj _),
  b_con (pan:=false) (zZ IH x19 args v23 e23 s24 s25 s26),
  zh (zkX v10 v23 v27 e27 s28 s29),
  zh (qR v27 v30 e30),
  e_un (zb rfl) (zb rfl) (fun W=>by rw [← e31];exact r_not W),
  e_fbv h32,
  b_con (pan:=true) (zaD (3:Int) v33 e33),
  trivial⟩ mixed trivial (fun _ _ _ _ _ hs=>by cases hs) (by kernel_rfl))
theorem zmN {w0:World} (e:Xp) (args:(List Int)) (N:Nat) (IH:zY w0 args N) (v1:Bool) (v3:Bool) (n5:Nat) (x6:Xp) (v10:Int) (n18:Nat) (x19:Xp) (v23:Int) (v27:Int) (v30:Bool) (v31:Bool) (e1:((e.op == (1:Int)))=v1) (e3:((e.op == (2:Int)))=v3) (e10:((evalX args x6).getD 0)=v10) (e23:((evalX args x19).getD 0)=v23) (e27:(operX 6 v10 v23)=v27) (e30:(valB v27)=v30) (e31:(!v30)=v31) (h2:v1=false) (h4:v3=false) (s7:(0:Int)=(n5:Int)) (s8:e.l[n5]?=some x6) (h9:(evalX args x6).isSome=true) (s11:(evalX args x6).isSome=true) (s12:Vx args.length x6) (s13:nodes x6≤N) (h14:(e.op == (3:Int))=false) (h15:(e.op == (4:Int))=false) (h16:(e.op == (5:Int))=false) (h17:(e.op == (6:Int))=true) (s20:(1:Int)=(n18:Int)) (s21:e.l[n18]?=some x19) (h22:(evalX args x19).isSome=true) (s24:(evalX args x19).isSome=true) (s25:Vx args.length x19) (s26:nodes x19≤N) (s28:valB v10=true) (s29:valB v23=true) (h32:v31=false):BFun false (KN w0) Tryz.prog 63 [.o (.g [.d (pI e.op),.d (pI e.n),.d (pLs cE e.l)]),.o (.c (.p 0 0)),.o (.c (.p 1 0)),.o (.c (.p 2 0))] [(22,[.d (pLs cI args)]),(89,[.q 63 [(0,0),(1,0),(2,0)]]),(88,[.d (pM)])] (.o (.c (.d (pI v27)))) [(22,[.d (pLs cI args)]),(89,[.q 63 [(0,0),(1,0),(2,0)]]),(88,[.d (pM)])] :=
 con_b (pan:=false) (zr (F:=FL [pI e.op,pI e.n,pLs cE e.l,pLs cI args,pM,pB v1,pB v3,pP (cE x6),pI x6.op,pI x6.n,pLs cE x6.l,pI v10,pP (cE x19),pI x19.op,pI x19.n,pLs cE x19.l,pI v23,pI v27,pB v30,pB v31] []) (C:=[(1000007,.bin .eql 3 (yh 0) (LF (.k (.int .i64 1))) (yh 5)),
  (10005,.fb 5 false),
  (1000009,.bin .eql 3 (yh 0) (LF (.k (.int .i64 2))) (yh 6)),
  (10006,.fb 6 false),
  (1000014,.op (.ia 29) [yh 2,LF (.k (.int .i64 0))] [] (yh 7)),
  (1000015,.op (.ld 32) [yh 7] [] (.o (.g [.h 8,.h 9,.h 10]))),
  (1000016,.call ⟨63,[.o (.g [.h 8,.h 9,.h 10]),.o (.c (.p 900 0)),.o (.c (.p 901 0)),.o (.c (.p 902 0))],[.bx 900 22 [.h 3],.bx 901 89 [.q 63 [(900,0),(901,0),(902,0)]],.bx 902 88 [.h 4]],yh 11,[.bx 900 22 [.h 3],.bx 901 89 [.q 63 [(900,0),(901,0),(902,0)]],.bx 902 88 [.h 4]]⟩),
  (1000021,.op (.lk 88 false) [yh 4,yh 0] [] (LF (.q 61 []))),
  (1000026,.op (.ia 29) [yh 2,LF (.k (.int .i64 1))] [] (yh 12)),
  (1000027,.op (.ld 32) [yh 12] [] (.o (.g [.h 13,.h 14,.h 15]))),
  (1000028,.call ⟨63,[.o (.g [.h 13,.h 14,.h 15]),.o (.c (.p 900 0)),.o (.c (.p 901 0)),.o (.c (.p 902 0))],[.bx 900 22 [.h 3],.bx 901 89 [.q 63 [(900,0),(901,0),(902,0)]],.bx 902 88 [.h 4]],yh 16,[.bx 900 22 [.h 3],.bx 901 89 [.q 63 [(900,0),(901,0),(902,0)]],.bx 902 88 [.h 4]]⟩),
  (1000029,.call ⟨61,[yh 11,yh 16],[],yh 17,[]⟩),
  (1000032,.call ⟨64,[yh 17],[],yh 18,[]⟩),
  (1000033,.un .not (yh 18) (yh 19)),
  (10019,.fb 19 false)]) (k:=⟨63,[.o (.g [.h 0,.h 1,.h 2]),.o (.c (.p 900 0)),.o (.c (.p 901 0)),.o (.c (.p 902 0))],[.bx 900 22 [.h 3],.bx 901 89 [.q 63 [(900,0),(901,0),(902,0)]],.bx 902 88 [.h 4]],yh 17,[.bx 900 22 [.h 3],.bx 901 89 [.q 63 [(900,0),(901,0),(902,0)]],.bx 902 88 [.h 4]]⟩) 0 (zg ⟨za,za,(ze (zf rfl)),(ze zt),zR,za,za,(zl ((zf rfl) _)),za,za,(ze (zf rfl)),za,(zl ((zf rfl) _)),za,za,(ze (zf rfl)),za,za,za,za,trivial⟩) ⟨e_bin (zb rfl) zd (zb rfl) (r_cmp (congrArg some e1)),
  e_fbv h2,
  e_bin (zb rfl) zd (zb rfl) (r_cmp (congrArg some e3)),
  e_fbv h4,
  e_iaL (E:=32) (z:=3) zj (by kernel_rfl) (by kernel_rfl) (zc rfl) zd s7 s8 (zc rfl),
  e_ldG (by kernel_rfl) (by kernel_rfl) (zc rfl) (cE_eq _).symm rfl (zj _),
  b_con (pan:=false) (zZ IH x6 args v10 e10 s11 s12 s13),
  e_lk (zc rfl) (zb (show pI e.op=pV (.int .i64 6) by rw [eq_of_beq h17])) find6,
  e_iaL (E:=32) (z:=3) zj (by kernel_rfl) (by kernel_rfl) (zc rfl) zd s20 s21 (zc rfl),
  e_ldG (by kernel_rfl) (by kernel_rfl) (zc rfl) (cE_eq _).symm rfl (zj _),
  b_con (pan:=false) (zZ IH x19 args v23 e23 s24 s25 s26),
  zh (zkX v10 v23 v27 e27 s28 s29),
  zh (qR v27 v30 e30),
  e_un (zb rfl) (zb rfl) (fun W=>by rw [← e31];exact r_not W),
  e_fbv h32,
  trivial⟩ mixed (by kernel_rfl))
theorem zmO {w0:World} (e:Xp) (args:(List Int)) (N:Nat) (IH:zY w0 args N) (v1:Bool) (v3:Bool) (n5:Nat) (x6:Xp) (v10:Int) (n18:Nat) (x19:Xp) (v23:Int) (e1:((e.op == (1:Int)))=v1) (e3:((e.op == (2:Int)))=v3) (e10:((evalX args x6).getD 0)=v10) (e23:((3:Int))=v23) (h2:v1=false) (h4:v3=false) (s7:(0:Int)=(n5:Int)) (s8:e.l[n5]?=some x6) (h9:(evalX args x6).isSome=true) (s11:(evalX args x6).isSome=true) (s12:Vx args.length x6) (s13:nodes x6≤N) (h14:(e.op == (3:Int))=false) (h15:(e.op == (4:Int))=false) (h16:(e.op == (5:Int))=false) (h17:(e.op == (6:Int))=true) (s20:(1:Int)=(n18:Int)) (s21:e.l[n18]?=some x19) (h22:(evalX args x19).isSome=false) (s24:(evalX args x19).isSome=false) (s25:Vx args.length x19) (s26:nodes x19≤N):BFun true (KN w0) Tryz.prog 63 [.o (.g [.d (pI e.op),.d (pI e.n),.d (pLs cE e.l)]),.o (.c (.p 0 0)),.o (.c (.p 1 0)),.o (.c (.p 2 0))] [(22,[.d (pLs cI args)]),(89,[.q 63 [(0,0),(1,0),(2,0)]]),(88,[.d (pM)])] (.o (.c (.d (pV (.iface 44 (.int .i64 v23)))))) [(22,[.d (pLs cI args)]),(89,[.q 63 [(0,0),(1,0),(2,0)]]),(88,[.d (pM)])] :=
 con_b (pan:=true) (qg (F:=FL [pI e.op,pI e.n,pLs cE e.l,pLs cI args,pM,pB v1,pB v3,pP (cE x6),pI x6.op,pI x6.n,pLs cE x6.l,pI v10,pP (cE x19),pI x19.op,pI x19.n,pLs cE x19.l,pV (.iface 44 (.int .i64 v23))] []) (C:=[(1000007,.bin .eql 3 (yh 0) (LF (.k (.int .i64 1))) (yh 5)),
  (10005,.fb 5 false),
  (1000009,.bin .eql 3 (yh 0) (LF (.k (.int .i64 2))) (yh 6)),
  (10006,.fb 6 false),
  (1000014,.op (.ia 29) [yh 2,LF (.k (.int .i64 0))] [] (yh 7)),
  (1000015,.op (.ld 32) [yh 7] [] (.o (.g [.h 8,.h 9,.h 10]))),
  (1000016,.call ⟨63,[.o (.g [.h 8,.h 9,.h 10]),.o (.c (.p 900 0)),.o (.c (.p 901 0)),.o (.c (.p 902 0))],[.bx 900 22 [.h 3],.bx 901 89 [.q 63 [(900,0),(901,0),(902,0)]],.bx 902 88 [.h 4]],yh 11,[.bx 900 22 [.h 3],.bx 901 89 [.q 63 [(900,0),(901,0),(902,0)]],.bx 902 88 [.h 4]]⟩),
  (1000021,.op (.lk 88 false) [yh 4,yh 0] [] (LF (.q 61 []))),
  (1000026,.op (.ia 29) [yh 2,LF (.k (.int .i64 1))] [] (yh 12)),
  (1000027,.op (.ld 32) [yh 12] [] (.o (.g [.h 13,.h 14,.h 15]))),
  (1000028,.pan ⟨63,[.o (.g [.h 13,.h 14,.h 15]),.o (.c (.p 900 0)),.o (.c (.p 901 0)),.o (.c (.p 902 0))],[.bx 900 22 [.h 3],.bx 901 89 [.q 63 [(900,0),(901,0),(902,0)]],.bx 902 88 [.h 4]],yh 16,[.bx 900 22 [.h 3],.bx 901 89 [.q 63 [(900,0),(901,0),(902,0)]],.bx 902 88 [.h 4]]⟩)]) (k:=⟨63,[.o (.g [.h 0,.h 1,.h 2]),.o (.c (.p 900 0)),.o (.c (.p 901 0)),.o (.c (.p 902 0))],[.bx 900 22 [.h 3],.bx 901 89 [.q 63 [(900,0),(901,0),(902,0)]],.bx 902 88 [.h 4]],yh 16,[.bx 900 22 [.h 3],.bx 901 89 [.q 63 [(900,0),(901,0),(902,0)]],.bx 902 88 [.h 4]]⟩) ⟨[],[],0⟩ [] 0 (zg ⟨za,za,(ze (zf rfl)),(ze zt),zR,za,za,(zl ((zf rfl) _)),za,za,(ze (zf rfl)),za,(zl ((zf rfl) _)),za,za,(ze (zf rfl)),za,trivial⟩) ⟨e_bin (zb rfl) zd (zb rfl) (r_cmp (congrArg some e1)),
  e_fbv h2,
  e_bin (zb rfl) zd (zb rfl) (r_cmp (congrArg some e3)),
  e_fbv h4,
  e_iaL (E:=32) (z:=3) zj (by kernel_rfl) (by kernel_rfl) (zc rfl) zd s7 s8 (zc rfl),
  e_ldG (by kernel_rfl) (by kernel_rfl) (zc rfl) (cE_eq _).symm rfl (zj _),
  b_con (pan:=false) (zZ IH x6 args v10 e10 s11 s12 s13),
  e_lk (zc rfl) (zb (show pI e.op=pV (.int .i64 6) by rw [eq_of_beq h17])) find6,
  e_iaL (E:=32) (z:=3) zj (by kernel_rfl) (by kernel_rfl) (zc rfl) zd s20 s21 (zc rfl),
  e_ldG (by kernel_rfl) (by kernel_rfl) (zc rfl) (cE_eq _).symm rfl (zj _),
  b_con (pan:=true) (zbG IH x19 args v23 e23 s24 s25 s26),
  trivial⟩ mixed trivial (fun _ _ _ _ _ hs=>by cases hs) (by kernel_rfl))
theorem zmP {w0:World} (e:Xp) (args:(List Int)) (N:Nat) (IH:zY w0 args N) (v1:Bool) (v3:Bool) (n5:Nat) (x6:Xp) (v10:Int) (n19:Nat) (x20:Xp) (v24:Int) (v28:Int) (v31:Bool) (v32:Bool) (v34:Int) (e1:((e.op == (1:Int)))=v1) (e3:((e.op == (2:Int)))=v3) (e10:((evalX args x6).getD 0)=v10) (e24:((evalX args x20).getD 0)=v24) (e28:(operX 7 v10 v24)=v28) (e31:(valB v28)=v31) (e32:(!v31)=v32) (e34:((3:Int))=v34) (h2:v1=false) (h4:v3=false) (s7:(0:Int)=(n5:Int)) (s8:e.l[n5]?=some x6) (h9:(evalX args x6).isSome=true) (s11:(evalX args x6).isSome=true) (s12:Vx args.length x6) (s13:nodes x6≤N) (h14:(e.op == (3:Int))=false) (h15:(e.op == (4:Int))=false) (h16:(e.op == (5:Int))=false) (h17:(e.op == (6:Int))=false) (s18:(e.op == (7:Int))=true) (s21:(1:Int)=(n19:Int)) (s22:e.l[n19]?=some x20) (h23:(evalX args x20).isSome=true) (s25:(evalX args x20).isSome=true) (s26:Vx args.length x20) (s27:nodes x20≤N) (s29:valB v10=true) (s30:valB v24=true) (h33:v32=true):BFun true (KN w0) Tryz.prog 63 [.o (.g [.d (pI e.op),.d (pI e.n),.d (pLs cE e.l)]),.o (.c (.p 0 0)),.o (.c (.p 1 0)),.o (.c (.p 2 0))] [(22,[.d (pLs cI args)]),(89,[.q 63 [(0,0),(1,0),(2,0)]]),(88,[.d (pM)])] (.o (.c (.d (pV (.iface 44 (.int .i64 v34)))))) [(22,[.d (pLs cI args)]),(89,[.q 63 [(0,0),(1,0),(2,0)]]),(88,[.d (pM)])] :=
 con_b (pan:=true) (qg (F:=FL [pI e.op,pI e.n,pLs cE e.l,pLs cI args,pM,pB v1,pB v3,pP (cE x6),pI x6.op,pI x6.n,pLs cE x6.l,pI v10,pP (cE x20),pI x20.op,pI x20.n,pLs cE x20.l,pI v24,pI v28,pB v31,pB v32,pV (.iface 44 (.int .i64 v34))] []) (C:=[(1000007,.bin .eql 3 (yh 0) (LF (.k (.int .i64 1))) (yh 5)),
  (10005,.fb 5 false),
  (1000009,.bin .eql 3 (yh 0) (LF (.k (.int .i64 2))) (yh 6)),
  (10006,.fb 6 false),
  (1000014,.op (.ia 29) [yh 2,LF (.k (.int .i64 0))] [] (yh 7)),
  (1000015,.op (.ld 32) [yh 7] [] (.o (.g [.h 8,.h 9,.h 10]))),
  (1000016,.call ⟨63,[.o (.g [.h 8,.h 9,.h 10]),.o (.c (.p 900 0)),.o (.c (.p 901 0)),.o (.c (.p 902 0))],[.bx 900 22 [.h 3],.bx 901 89 [.q 63 [(900,0),(901,0),(902,0)]],.bx 902 88 [.h 4]],yh 11,[.bx 900 22 [.h 3],.bx 901 89 [.q 63 [(900,0),(901,0),(902,0)]],.bx 902 88 [.h 4]]⟩),
  (1000021,.op (.lk 88 false) [yh 4,yh 0] [] (LF (.q 62 []))),
  (1000026,.op (.ia 29) [yh 2,LF (.k (.int .i64 1))] [] (yh 12)),
  (1000027,.op (.ld 32) [yh 12] [] (.o (.g [.h 13,.h 14,.h 15]))),
  (1000028,.call ⟨63,[.o (.g [.h 13,.h 14,.h 15]),.o (.c (.p 900 0)),.o (.c (.p 901 0)),.o (.c (.p 902 0))],[.bx 900 22 [.h 3],.bx 901 89 [.q 63 [(900,0),(901,0),(902,0)]],.bx 902 88 [.h 4]],yh 16,[.bx 900 22 [.h 3],.bx 901 89 [.q 63 [(900,0),(901,0),(902,0)]],.bx 902 88 [.h 4]]⟩),
  (1000029,.call ⟨62,[yh 11,yh 16],[],yh 17,[]⟩),
  (1000032,.call ⟨64,[yh 17],[],yh 18,[]⟩),
  (1000033,.un .not (yh 18) (yh 19)),
  (10019,.fb 19 true),
  (1000034,.pan ⟨25,[.o (.c (.k (.int .i64 3)))],[],yh 20,[]⟩)]) (k:=⟨63,[.o (.g [.h 0,.h 1,.h 2]),.o (.c (.p 900 0)),.o (.c (.p 901 0)),.o (.c (.p 902 0))],[.bx 900 22 [.h 3],.bx 901 89 [.q 63 [(900,0),(901,0),(902,0)]],.bx 902 88 [.h 4]],yh 20,[.bx 900 22 [.h 3],.bx 901 89 [.q 63 [(900,0),(901,0),(902,0)]],.bx 902 88 [.h 4]]⟩) ⟨[],[],0⟩ [] 0 (zg ⟨za,za,(ze (zf rfl)),(ze zt),zR,za,za,(zl ((zf rfl) _)),za,za,(ze (zf rfl)),za,(zl ((zf rfl) _)),za,za,(ze (zf rfl)),za,za,za,za,za,trivial⟩) ⟨e_bin (zb rfl) zd (zb rfl) (r_cmp (congrArg some e1)),
  e_fbv h2,
  e_bin (zb rfl) zd (zb rfl) (r_cmp (congrArg some e3)),
  e_fbv h4,
  e_iaL (E:=32) (z:=3) zj (by kernel_rfl) (by kernel_rfl) (zc rfl) zd s7 s8 (zc rfl),
  e_ldG (by kernel_rfl) (by kernel_rfl) (zc rfl) (cE_eq _).symm rfl (zj _),
  b_con (pan:=false) (zZ IH x6 args v10 e10 s11 s12 s13),
  e_lk (zc rfl) (zb (show pI e.op=pV (.int .i64 7) by rw [eq_of_beq s18])) find7,
  e_iaL (E:=32) (z:=3) zj (by kernel_rfl) (by kernel_rfl) (zc rfl) zd s21 s22 (zc rfl),
  e_ldG (by kernel_rfl) (by kernel_rfl) (zc rfl) (cE_eq _).symm rfl (zj _),
  b_con (pan:=false) (zZ IH x20 args v24 e24 s25 s26 s27),
  zh (zkY v10 v24 v28 e28 s29 s30),
  zh (qR v28 v31 e31),
  e_un (zb rfl) (zb rfl) (fun W=>by rw [← e32];exact r_not W),
  e_fbv h33,
  b_con (pan:=true) (zaD (3:Int) v34 e34),
  trivial⟩ mixed trivial (fun _ _ _ _ _ hs=>by cases hs) (by kernel_rfl))
theorem zmQ {w0:World} (e:Xp) (args:(List Int)) (N:Nat) (IH:zY w0 args N) (v1:Bool) (v3:Bool) (n5:Nat) (x6:Xp) (v10:Int) (n19:Nat) (x20:Xp) (v24:Int) (v28:Int) (v31:Bool) (v32:Bool) (e1:((e.op == (1:Int)))=v1) (e3:((e.op == (2:Int)))=v3) (e10:((evalX args x6).getD 0)=v10) (e24:((evalX args x20).getD 0)=v24) (e28:(operX 7 v10 v24)=v28) (e31:(valB v28)=v31) (e32:(!v31)=v32) (h2:v1=false) (h4:v3=false) (s7:(0:Int)=(n5:Int)) (s8:e.l[n5]?=some x6) (h9:(evalX args x6).isSome=true) (s11:(evalX args x6).isSome=true) (s12:Vx args.length x6) (s13:nodes x6≤N) (h14:(e.op == (3:Int))=false) (h15:(e.op == (4:Int))=false) (h16:(e.op == (5:Int))=false) (h17:(e.op == (6:Int))=false) (s18:(e.op == (7:Int))=true) (s21:(1:Int)=(n19:Int)) (s22:e.l[n19]?=some x20) (h23:(evalX args x20).isSome=true) (s25:(evalX args x20).isSome=true) (s26:Vx args.length x20) (s27:nodes x20≤N) (s29:valB v10=true) (s30:valB v24=true) (h33:v32=false):BFun false (KN w0) Tryz.prog 63 [.o (.g [.d (pI e.op),.d (pI e.n),.d (pLs cE e.l)]),.o (.c (.p 0 0)),.o (.c (.p 1 0)),.o (.c (.p 2 0))] [(22,[.d (pLs cI args)]),(89,[.q 63 [(0,0),(1,0),(2,0)]]),(88,[.d (pM)])] (.o (.c (.d (pI v28)))) [(22,[.d (pLs cI args)]),(89,[.q 63 [(0,0),(1,0),(2,0)]]),(88,[.d (pM)])] :=
 con_b (pan:=false) (zr (F:=FL [pI e.op,pI e.n,pLs cE e.l,pLs cI args,pM,pB v1,pB v3,pP (cE x6),pI x6.op,pI x6.n,pLs cE x6.l,pI v10,pP (cE x20),pI x20.op,pI x20.n,pLs cE x20.l,pI v24,pI v28,pB v31,pB v32] []) (C:=[(1000007,.bin .eql 3 (yh 0) (LF (.k (.int .i64 1))) (yh 5)),
  (10005,.fb 5 false),
  (1000009,.bin .eql 3 (yh 0) (LF (.k (.int .i64 2))) (yh 6)),
  (10006,.fb 6 false),
  (1000014,.op (.ia 29) [yh 2,LF (.k (.int .i64 0))] [] (yh 7)),
  (1000015,.op (.ld 32) [yh 7] [] (.o (.g [.h 8,.h 9,.h 10]))),
  (1000016,.call ⟨63,[.o (.g [.h 8,.h 9,.h 10]),.o (.c (.p 900 0)),.o (.c (.p 901 0)),.o (.c (.p 902 0))],[.bx 900 22 [.h 3],.bx 901 89 [.q 63 [(900,0),(901,0),(902,0)]],.bx 902 88 [.h 4]],yh 11,[.bx 900 22 [.h 3],.bx 901 89 [.q 63 [(900,0),(901,0),(902,0)]],.bx 902 88 [.h 4]]⟩),
  (1000021,.op (.lk 88 false) [yh 4,yh 0] [] (LF (.q 62 []))),
  (1000026,.op (.ia 29) [yh 2,LF (.k (.int .i64 1))] [] (yh 12)),
  (1000027,.op (.ld 32) [yh 12] [] (.o (.g [.h 13,.h 14,.h 15]))),
  (1000028,.call ⟨63,[.o (.g [.h 13,.h 14,.h 15]),.o (.c (.p 900 0)),.o (.c (.p 901 0)),.o (.c (.p 902 0))],[.bx 900 22 [.h 3],.bx 901 89 [.q 63 [(900,0),(901,0),(902,0)]],.bx 902 88 [.h 4]],yh 16,[.bx 900 22 [.h 3],.bx 901 89 [.q 63 [(900,0),(901,0),(902,0)]],.bx 902 88 [.h 4]]⟩),
  (1000029,.call ⟨62,[yh 11,yh 16],[],yh 17,[]⟩),
  (1000032,.call ⟨64,[yh 17],[],yh 18,[]⟩),
  (1000033,.un .not (yh 18) (yh 19)),
  (10019,.fb 19 false)]) (k:=⟨63,[.o (.g [.h 0,.h 1,.h 2]),.o (.c (.p 900 0)),.o (.c (.p 901 0)),.o (.c (.p 902 0))],[.bx 900 22 [.h 3],.bx 901 89 [.q 63 [(900,0),(901,0),(902,0)]],.bx 902 88 [.h 4]],yh 17,[.bx 900 22 [.h 3],.bx 901 89 [.q 63 [(900,0),(901,0),(902,0)]],.bx 902 88 [.h 4]]⟩) 0 (zg ⟨za,za,(ze (zf rfl)),(ze zt),zR,za,za,(zl ((zf rfl) _)),za,za,(ze (zf rfl)),za,(zl ((zf rfl) _)),za,za,(ze (zf rfl)),za,za,za,za,trivial⟩) ⟨e_bin (zb rfl) zd (zb rfl) (r_cmp (congrArg some e1)),
  e_fbv h2,
  e_bin (zb rfl) zd (zb rfl) (r_cmp (congrArg some e3)),
  e_fbv h4,
  e_iaL (E:=32) (z:=3) zj (by kernel_rfl) (by kernel_rfl) (zc rfl) zd s7 s8 (zc rfl),
  e_ldG (by kernel_rfl) (by kernel_rfl) (zc rfl) (cE_eq _).symm rfl (zj _),
  b_con (pan:=false) (zZ IH x6 args v10 e10 s11 s12 s13),
  e_lk (zc rfl) (zb (show pI e.op=pV (.int .i64 7) by rw [eq_of_beq s18])) find7,
  e_iaL (E:=32) (z:=3) zj (by kernel_rfl) (by kernel_rfl) (zc rfl) zd s21 s22 (zc rfl),
  e_ldG (by kernel_rfl) (by kernel_rfl) (zc rfl) (cE_eq _).symm rfl (zj _),
  b_con (pan:=false) (zZ IH x20 args v24 e24 s25 s26 s27),
  zh (zkY v10 v24 v28 e28 s29 s30),
  zh (qR v28 v31 e31),
  e_un (zb rfl) (zb rfl) (fun W=>by rw [← e32];exact r_not W),
  e_fbv h33,
  trivial⟩ mixed (by kernel_rfl))
theorem zmR {w0:World} (e:Xp) (args:(List Int)) (N:Nat) (IH:zY w0 args N) (v1:Bool) (v3:Bool) (n5:Nat) (x6:Xp) (v10:Int) (n19:Nat) (x20:Xp) (v24:Int) (e1:((e.op == (1:Int)))=v1) (e3:((e.op == (2:Int)))=v3) (e10:((evalX args x6).getD 0)=v10) (e24:((3:Int))=v24) (h2:v1=false) (h4:v3=false) (s7:(0:Int)=(n5:Int)) (s8:e.l[n5]?=some x6) (h9:(evalX args x6).isSome=true) (s11:(evalX args x6).isSome=true) (s12:Vx args.length x6) (s13:nodes x6≤N) (h14:(e.op == (3:Int))=false) (h15:(e.op == (4:Int))=false) (h16:(e.op == (5:Int))=false) (h17:(e.op == (6:Int))=false) (s18:(e.op == (7:Int))=true) (s21:(1:Int)=(n19:Int)) (s22:e.l[n19]?=some x20) (h23:(evalX args x20).isSome=false) (s25:(evalX args x20).isSome=false) (s26:Vx args.length x20) (s27:nodes x20≤N):BFun true (KN w0) Tryz.prog 63 [.o (.g [.d (pI e.op),.d (pI e.n),.d (pLs cE e.l)]),.o (.c (.p 0 0)),.o (.c (.p 1 0)),.o (.c (.p 2 0))] [(22,[.d (pLs cI args)]),(89,[.q 63 [(0,0),(1,0),(2,0)]]),(88,[.d (pM)])] (.o (.c (.d (pV (.iface 44 (.int .i64 v24)))))) [(22,[.d (pLs cI args)]),(89,[.q 63 [(0,0),(1,0),(2,0)]]),(88,[.d (pM)])] :=
 con_b (pan:=true) (qg (F:=FL [pI e.op,pI e.n,pLs cE e.l,pLs cI args,pM,pB v1,pB v3,pP (cE x6),pI x6.op,pI x6.n,pLs cE x6.l,pI v10,pP (cE x20),pI x20.op,pI x20.n,pLs cE x20.l,pV (.iface 44 (.int .i64 v24))] []) (C:=[(1000007,.bin .eql 3 (yh 0) (LF (.k (.int .i64 1))) (yh 5)),
  (10005,.fb 5 false),
  (1000009,.bin .eql 3 (yh 0) (LF (.k (.int .i64 2))) (yh 6)),
  (10006,.fb 6 false),
  (1000014,.op (.ia 29) [yh 2,LF (.k (.int .i64 0))] [] (yh 7)),
  (1000015,.op (.ld 32) [yh 7] [] (.o (.g [.h 8,.h 9,.h 10]))),
  (1000016,.call ⟨63,[.o (.g [.h 8,.h 9,.h 10]),.o (.c (.p 900 0)),.o (.c (.p 901 0)),.o (.c (.p 902 0))],[.bx 900 22 [.h 3],.bx 901 89 [.q 63 [(900,0),(901,0),(902,0)]],.bx 902 88 [.h 4]],yh 11,[.bx 900 22 [.h 3],.bx 901 89 [.q 63 [(900,0),(901,0),(902,0)]],.bx 902 88 [.h 4]]⟩),
  (1000021,.op (.lk 88 false) [yh 4,yh 0] [] (LF (.q 62 []))),
  (1000026,.op (.ia 29) [yh 2,LF (.k (.int .i64 1))] [] (yh 12)),
  (1000027,.op (.ld 32) [yh 12] [] (.o (.g [.h 13,.h 14,.h 15]))),
  (1000028,.pan ⟨63,[.o (.g [.h 13,.h 14,.h 15]),.o (.c (.p 900 0)),.o (.c (.p 901 0)),.o (.c (.p 902 0))],[.bx 900 22 [.h 3],.bx 901 89 [.q 63 [(900,0),(901,0),(902,0)]],.bx 902 88 [.h 4]],yh 16,[.bx 900 22 [.h 3],.bx 901 89 [.q 63 [(900,0),(901,0),(902,0)]],.bx 902 88 [.h 4]]⟩)]) (k:=⟨63,[.o (.g [.h 0,.h 1,.h 2]),.o (.c (.p 900 0)),.o (.c (.p 901 0)),.o (.c (.p 902 0))],[.bx 900 22 [.h 3],.bx 901 89 [.q 63 [(900,0),(901,0),(902,0)]],.bx 902 88 [.h 4]],yh 16,[.bx 900 22 [.h 3],.bx 901 89 [.q 63 [(900,0),(901,0),(902,0)]],.bx 902 88 [.h 4]]⟩) ⟨[],[],0⟩ [] 0 (zg ⟨za,za,(ze (zf rfl)),(ze zt),zR,za,za,(zl ((zf rfl) _)),za,za,(ze (zf rfl)),za,(zl ((zf rfl) _)),za,za,(ze (zf rfl)),za,trivial⟩) ⟨e_bin (zb rfl) zd (zb rfl) (r_cmp (congrArg some e1)),
  e_fbv h2,
  e_bin (zb rfl) zd (zb rfl) (r_cmp (congrArg some e3)),
  e_fbv h4,
  e_iaL (E:=32) (z:=3) zj (by kernel_rfl) (by kernel_rfl) (zc rfl) zd s7 s8 (zc rfl),
  e_ldG (by kernel_rfl) (by kernel_rfl) (zc rfl) (cE_eq _).symm rfl (zj _),
  b_con (pan:=false) (zZ IH x6 args v10 e10 s11 s12 s13),
  e_lk (zc rfl) (zb (show pI e.op=pV (.int .i64 7) by rw [eq_of_beq s18])) find7,
  e_iaL (E:=32) (z:=3) zj (by kernel_rfl) (by kernel_rfl) (zc rfl) zd s21 s22 (zc rfl),
  e_ldG (by kernel_rfl) (by kernel_rfl) (zc rfl) (cE_eq _).symm rfl (zj _),
  b_con (pan:=true) (zbG IH x20 args v24 e24 s25 s26 s27),
  trivial⟩ mixed trivial (fun _ _ _ _ _ hs=>by cases hs) (by kernel_rfl))
theorem zmS {w0:World} (e:Xp) (args:(List Int)) (N:Nat) (IH:zY w0 args N) (v1:Bool) (v3:Bool) (n5:Nat) (x6:Xp) (v10:Int) (e1:((e.op == (1:Int)))=v1) (e3:((e.op == (2:Int)))=v3) (e10:((3:Int))=v10) (h2:v1=false) (h4:v3=false) (s7:(0:Int)=(n5:Int)) (s8:e.l[n5]?=some x6) (h9:(evalX args x6).isSome=false) (s11:(evalX args x6).isSome=false) (s12:Vx args.length x6) (s13:nodes x6≤N):BFun true (KN w0) Tryz.prog 63 [.o (.g [.d (pI e.op),.d (pI e.n),.d (pLs cE e.l)]),.o (.c (.p 0 0)),.o (.c (.p 1 0)),.o (.c (.p 2 0))] [(22,[.d (pLs cI args)]),(89,[.q 63 [(0,0),(1,0),(2,0)]]),(88,[.d (pM)])] (.o (.c (.d (pV (.iface 44 (.int .i64 v10)))))) [(22,[.d (pLs cI args)]),(89,[.q 63 [(0,0),(1,0),(2,0)]]),(88,[.d (pM)])] :=
 con_b (pan:=true) (qg (F:=FL [pI e.op,pI e.n,pLs cE e.l,pLs cI args,pM,pB v1,pB v3,pP (cE x6),pI x6.op,pI x6.n,pLs cE x6.l,pV (.iface 44 (.int .i64 v10))] []) (C:=[(1000007,.bin .eql 3 (yh 0) (LF (.k (.int .i64 1))) (yh 5)),
  (10005,.fb 5 false),
  (1000009,.bin .eql 3 (yh 0) (LF (.k (.int .i64 2))) (yh 6)),
  (10006,.fb 6 false),
  (1000014,.op (.ia 29) [yh 2,LF (.k (.int .i64 0))] [] (yh 7)),
  (1000015,.op (.ld 32) [yh 7] [] (.o (.g [.h 8,.h 9,.h 10]))),
  (1000016,.pan ⟨63,[.o (.g [.h 8,.h 9,.h 10]),.o (.c (.p 900 0)),.o (.c (.p 901 0)),.o (.c (.p 902 0))],[.bx 900 22 [.h 3],.bx 901 89 [.q 63 [(900,0),(901,0),(902,0)]],.bx 902 88 [.h 4]],yh 11,[.bx 900 22 [.h 3],.bx 901 89 [.q 63 [(900,0),(901,0),(902,0)]],.bx 902 88 [.h 4]]⟩)]) (k:=⟨63,[.o (.g [.h 0,.h 1,.h 2]),.o (.c (.p 900 0)),.o (.c (.p 901 0)),.o (.c (.p 902 0))],[.bx 900 22 [.h 3],.bx 901 89 [.q 63 [(900,0),(901,0),(902,0)]],.bx 902 88 [.h 4]],yh 11,[.bx 900 22 [.h 3],.bx 901 89 [.q 63 [(900,0),(901,0),(902,0)]],.bx 902 88 [.h 4]]⟩) ⟨[],[],0⟩ [] 0 (zg ⟨za,za,(ze (zf rfl)),(ze zt),zR,za,za,(zl ((zf rfl) _)),za,za,(ze (zf rfl)),za,trivial⟩) ⟨e_bin (zb rfl) zd (zb rfl) (r_cmp (congrArg some e1)),
  e_fbv h2,
  e_bin (zb rfl) zd (zb rfl) (r_cmp (congrArg some e3)),
  e_fbv h4,
  e_iaL (E:=32) (z:=3) zj (by kernel_rfl) (by kernel_rfl) (zc rfl) zd s7 s8 (zc rfl),
  e_ldG (by kernel_rfl) (by kernel_rfl) (zc rfl) (cE_eq _).symm rfl (zj _),
  b_con (pan:=true) (zbG IH x6 args v10 e10 s11 s12 s13),
  trivial⟩ mixed trivial (fun _ _ _ _ _ hs=>by cases hs) (by kernel_rfl))
theorem zlg {w0:World} {N:Nat} {args:List Int} (IH:zY w0 args N) (e:Xp) (r:Int) (hs:evalX args e=some r) (hx:Vx args.length e) (hN:nodes e≤N+1):BFun false (KN w0) Tryz.prog 63 [.o (.g [.d (pI e.op),.d (pI e.n),.d (pLs cE e.l)]),.o (.c (.p 0 0)),.o (.c (.p 1 0)),.o (.c (.p 2 0))] [(22,[.d (pLs cI args)]),(89,[.q 63 [(0,0),(1,0),(2,0)]]),(88,[.d pM])] (.o (.c (.d (pI r)))) [(22,[.d (pLs cI args)]),(89,[.q 63 [(0,0),(1,0),(2,0)]]),(88,[.d pM])]:=by
 obtain ⟨v1,e1⟩:∃v,((e.op == (1:Int)))=v:=⟨_,rfl⟩
 cases h2:v1 with
 | true =>
  obtain ⟨v3,e3⟩:∃v,(valB e.n)=v:=⟨_,rfl⟩
  obtain ⟨v4,e4⟩:∃v,(!v3)=v:=⟨_,rfl⟩
  cases h5:v4 with
  | true =>
   exfalso;have dh2:=eq_of_beq (e1.trans h2);have q:=zjF (args:=args) hx (by assumption);rw [hs] at q;have z:=zaB q.symm;simp_all
  | false =>
   have r0:r=e.n:=by
    have dh2:=eq_of_beq (e1.trans h2);have q:=zjF (args:=args) hx (by assumption);rw [hs] at q;have z:=(qv q.symm).1;exact z
   rw [r0];exact zoA e args N IH v1 v3 v4 e1 e3 e4 h2 h5
 | false =>
  obtain ⟨v3,e3⟩:∃v,((e.op == (2:Int)))=v:=⟨_,rfl⟩
  cases h4:v3 with
  | true =>
   obtain ⟨n5,x6,s7,s8⟩:∃(n5:Nat) (x6:Int),e.n=(n5:Int)∧args[n5]?=some x6:=by (have dh2:=ne_of_beq_false (e1.trans h2);have dh4:=eq_of_beq (e3.trans h4);have q:=znn (args:=args) hx (by assumption);exact ⟨e.n.toNat,_,by omega,List.getElem?_eq_getElem (by omega)⟩)
   obtain ⟨v9,e9⟩:∃v,(valB x6)=v:=⟨_,rfl⟩
   obtain ⟨v10,e10⟩:∃v,(!v9)=v:=⟨_,rfl⟩
   cases h11:v10 with
   | true =>
    exfalso;have dh2:=ne_of_beq_false (e1.trans h2);have dh4:=eq_of_beq (e3.trans h4);have q:=zjE (args:=args) hx (by assumption);rw [zgu s7 s8] at q;rw [hs] at q;have z:=zaB q.symm;simp_all
   | false =>
    have r0:r=x6:=by
     have dh2:=ne_of_beq_false (e1.trans h2);have dh4:=eq_of_beq (e3.trans h4);have q:=zjE (args:=args) hx (by assumption);rw [zgu s7 s8] at q;rw [hs] at q;have z:=(qv q.symm).1;exact z
    rw [r0];exact zoC e args N IH v1 v3 n5 x6 v9 v10 e1 e3 e9 e10 h2 h4 s7 s8 h11
  | false =>
   obtain ⟨n5,x6,s7,s8⟩:∃(n5:Nat) (x6:Xp),(0:Int)=(n5:Int)∧e.l[n5]?=some x6:=by (have dh2:=ne_of_beq_false (e1.trans h2);have dh4:=ne_of_beq_false (e3.trans h4);obtain ⟨a,b,q1,q2⟩:=zaq (n:=0) (m:=0) hx (by assumption) (by assumption);exact ⟨0,_,rfl,q1⟩)
   cases h9:(evalX args x6).isSome with
   | true =>
    obtain ⟨v10,e10⟩:∃v,((evalX args x6).getD 0)=v:=⟨_,rfl⟩
    have s11:(evalX args x6).isSome=true:=by assumption
    have s12:Vx args.length x6:=by exact vx_at hx s8
    have s13:nodes x6≤N:=by exact zu hN s8
    cases h14:(e.op == (3:Int)) with
    | true =>
     obtain ⟨n15,x16,s17,s18⟩:∃(n15:Nat) (x16:Xp),(1:Int)=(n15:Int)∧e.l[n15]?=some x16:=by (have dh2:=ne_of_beq_false (e1.trans h2);have dh4:=ne_of_beq_false (e3.trans h4);have dh14:=eq_of_beq h14;obtain ⟨a,b,q1,q2⟩:=zaq (n:=0) (m:=0) hx (by assumption) (by assumption);exact ⟨1,_,rfl,q2⟩)
     cases h19:(evalX args x16).isSome with
     | true =>
      obtain ⟨v20,e20⟩:∃v,((evalX args x16).getD 0)=v:=⟨_,rfl⟩
      have s21:(evalX args x16).isSome=true:=by assumption
      have s22:Vx args.length x16:=by exact vx_at hx s18
      have s23:nodes x16≤N:=by exact zu hN s18
      obtain ⟨v24,e24⟩:∃v,(operX 3 v10 v20)=v:=⟨_,rfl⟩
      have s25:valB v10=true:=by exact qT (vx_at hx s8) s11 e10
      have s26:valB v20=true:=by exact qT (vx_at hx s18) s21 e20
      obtain ⟨v27,e27⟩:∃v,(valB v24)=v:=⟨_,rfl⟩
      obtain ⟨v28,e28⟩:∃v,(!v27)=v:=⟨_,rfl⟩
      cases h29:v28 with
      | true =>
       exfalso;have dh2:=ne_of_beq_false (e1.trans h2);have dh4:=ne_of_beq_false (e3.trans h4);have dh14:=eq_of_beq h14;have q:=zay (args:=args) hx (by assumption) (by assumption) s7 s17 s8 s18;rw [zD s11 e10,zD s21 e20] at q;have q:evalX args e=valO (operX e.op _ _):=q;rw [dh14] at q;rw [hs] at q;have z:=zaB q.symm;rw [e24] at z;simp_all
      | false =>
       have r0:r=v24:=by
        have dh2:=ne_of_beq_false (e1.trans h2);have dh4:=ne_of_beq_false (e3.trans h4);have dh14:=eq_of_beq h14;have q:=zay (args:=args) hx (by assumption) (by assumption) s7 s17 s8 s18;rw [zD s11 e10,zD s21 e20] at q;have q:evalX args e=valO (operX e.op _ _):=q;rw [dh14] at q;rw [hs] at q;have z:=(qv q.symm).1;rw [z,e24]
       rw [r0];exact zoE e args N IH v1 v3 n5 x6 v10 n15 x16 v20 v24 v27 v28 e1 e3 e10 e20 e24 e27 e28 h2 h4 s7 s8 h9 s11 s12 s13 h14 s17 s18 h19 s21 s22 s23 s25 s26 h29
     | false =>
      exfalso;have dh2:=ne_of_beq_false (e1.trans h2);have dh4:=ne_of_beq_false (e3.trans h4);have dh14:=eq_of_beq h14;rw [zcm (args:=args) hx (by assumption) (by assumption) s18 h19] at hs;cases hs
    | false =>
     cases h15:(e.op == (4:Int)) with
     | true =>
      obtain ⟨n16,x17,s18,s19⟩:∃(n16:Nat) (x17:Xp),(1:Int)=(n16:Int)∧e.l[n16]?=some x17:=by (have dh2:=ne_of_beq_false (e1.trans h2);have dh4:=ne_of_beq_false (e3.trans h4);have dh14:=ne_of_beq_false h14;have dh15:=eq_of_beq h15;obtain ⟨a,b,q1,q2⟩:=zaq (n:=0) (m:=0) hx (by assumption) (by assumption);exact ⟨1,_,rfl,q2⟩)
      cases h20:(evalX args x17).isSome with
      | true =>
       obtain ⟨v21,e21⟩:∃v,((evalX args x17).getD 0)=v:=⟨_,rfl⟩
       have s22:(evalX args x17).isSome=true:=by assumption
       have s23:Vx args.length x17:=by exact vx_at hx s19
       have s24:nodes x17≤N:=by exact zu hN s19
       obtain ⟨v25,e25⟩:∃v,(operX 4 v10 v21)=v:=⟨_,rfl⟩
       have s26:valB v10=true:=by exact qT (vx_at hx s8) s11 e10
       have s27:valB v21=true:=by exact qT (vx_at hx s19) s22 e21
       obtain ⟨v28,e28⟩:∃v,(valB v25)=v:=⟨_,rfl⟩
       obtain ⟨v29,e29⟩:∃v,(!v28)=v:=⟨_,rfl⟩
       cases h30:v29 with
       | true =>
        exfalso;have dh2:=ne_of_beq_false (e1.trans h2);have dh4:=ne_of_beq_false (e3.trans h4);have dh14:=ne_of_beq_false h14;have dh15:=eq_of_beq h15;have q:=zay (args:=args) hx (by assumption) (by assumption) s7 s18 s8 s19;rw [zD s11 e10,zD s22 e21] at q;have q:evalX args e=valO (operX e.op _ _):=q;rw [dh15] at q;rw [hs] at q;have z:=zaB q.symm;rw [e25] at z;simp_all
       | false =>
        have r0:r=v25:=by
         have dh2:=ne_of_beq_false (e1.trans h2);have dh4:=ne_of_beq_false (e3.trans h4);have dh14:=ne_of_beq_false h14;have dh15:=eq_of_beq h15;have q:=zay (args:=args) hx (by assumption) (by assumption) s7 s18 s8 s19;rw [zD s11 e10,zD s22 e21] at q;have q:evalX args e=valO (operX e.op _ _):=q;rw [dh15] at q;rw [hs] at q;have z:=(qv q.symm).1;rw [z,e25]
        rw [r0];exact zoH e args N IH v1 v3 n5 x6 v10 n16 x17 v21 v25 v28 v29 e1 e3 e10 e21 e25 e28 e29 h2 h4 s7 s8 h9 s11 s12 s13 h14 h15 s18 s19 h20 s22 s23 s24 s26 s27 h30
      | false =>
       exfalso;have dh2:=ne_of_beq_false (e1.trans h2);have dh4:=ne_of_beq_false (e3.trans h4);have dh14:=ne_of_beq_false h14;have dh15:=eq_of_beq h15;rw [zcm (args:=args) hx (by assumption) (by assumption) s19 h20] at hs;cases hs
     | false =>
      cases h16:(e.op == (5:Int)) with
      | true =>
       obtain ⟨n17,x18,s19,s20⟩:∃(n17:Nat) (x18:Xp),(1:Int)=(n17:Int)∧e.l[n17]?=some x18:=by (have dh2:=ne_of_beq_false (e1.trans h2);have dh4:=ne_of_beq_false (e3.trans h4);have dh14:=ne_of_beq_false h14;have dh15:=ne_of_beq_false h15;have dh16:=eq_of_beq h16;obtain ⟨a,b,q1,q2⟩:=zaq (n:=0) (m:=0) hx (by assumption) (by assumption);exact ⟨1,_,rfl,q2⟩)
       cases h21:(evalX args x18).isSome with
       | true =>
        obtain ⟨v22,e22⟩:∃v,((evalX args x18).getD 0)=v:=⟨_,rfl⟩
        have s23:(evalX args x18).isSome=true:=by assumption
        have s24:Vx args.length x18:=by exact vx_at hx s20
        have s25:nodes x18≤N:=by exact zu hN s20
        obtain ⟨v26,e26⟩:∃v,(operX 5 v10 v22)=v:=⟨_,rfl⟩
        have s27:valB v10=true:=by exact qT (vx_at hx s8) s11 e10
        have s28:valB v22=true:=by exact qT (vx_at hx s20) s23 e22
        obtain ⟨v29,e29⟩:∃v,(valB v26)=v:=⟨_,rfl⟩
        obtain ⟨v30,e30⟩:∃v,(!v29)=v:=⟨_,rfl⟩
        cases h31:v30 with
        | true =>
         exfalso;have dh2:=ne_of_beq_false (e1.trans h2);have dh4:=ne_of_beq_false (e3.trans h4);have dh14:=ne_of_beq_false h14;have dh15:=ne_of_beq_false h15;have dh16:=eq_of_beq h16;have q:=zay (args:=args) hx (by assumption) (by assumption) s7 s19 s8 s20;rw [zD s11 e10,zD s23 e22] at q;have q:evalX args e=valO (operX e.op _ _):=q;rw [dh16] at q;rw [hs] at q;have z:=zaB q.symm;rw [e26] at z;simp_all
        | false =>
         have r0:r=v26:=by
          have dh2:=ne_of_beq_false (e1.trans h2);have dh4:=ne_of_beq_false (e3.trans h4);have dh14:=ne_of_beq_false h14;have dh15:=ne_of_beq_false h15;have dh16:=eq_of_beq h16;have q:=zay (args:=args) hx (by assumption) (by assumption) s7 s19 s8 s20;rw [zD s11 e10,zD s23 e22] at q;have q:evalX args e=valO (operX e.op _ _):=q;rw [dh16] at q;rw [hs] at q;have z:=(qv q.symm).1;rw [z,e26]
         rw [r0];exact zmK e args N IH v1 v3 n5 x6 v10 n17 x18 v22 v26 v29 v30 e1 e3 e10 e22 e26 e29 e30 h2 h4 s7 s8 h9 s11 s12 s13 h14 h15 h16 s19 s20 h21 s23 s24 s25 s27 s28 h31
       | false =>
        exfalso;have dh2:=ne_of_beq_false (e1.trans h2);have dh4:=ne_of_beq_false (e3.trans h4);have dh14:=ne_of_beq_false h14;have dh15:=ne_of_beq_false h15;have dh16:=eq_of_beq h16;rw [zcm (args:=args) hx (by assumption) (by assumption) s20 h21] at hs;cases hs
      | false =>
       cases h17:(e.op == (6:Int)) with
       | true =>
        obtain ⟨n18,x19,s20,s21⟩:∃(n18:Nat) (x19:Xp),(1:Int)=(n18:Int)∧e.l[n18]?=some x19:=by (have dh2:=ne_of_beq_false (e1.trans h2);have dh4:=ne_of_beq_false (e3.trans h4);have dh14:=ne_of_beq_false h14;have dh15:=ne_of_beq_false h15;have dh16:=ne_of_beq_false h16;have dh17:=eq_of_beq h17;obtain ⟨a,b,q1,q2⟩:=zaq (n:=0) (m:=0) hx (by assumption) (by assumption);exact ⟨1,_,rfl,q2⟩)
        cases h22:(evalX args x19).isSome with
        | true =>
         obtain ⟨v23,e23⟩:∃v,((evalX args x19).getD 0)=v:=⟨_,rfl⟩
         have s24:(evalX args x19).isSome=true:=by assumption
         have s25:Vx args.length x19:=by exact vx_at hx s21
         have s26:nodes x19≤N:=by exact zu hN s21
         obtain ⟨v27,e27⟩:∃v,(operX 6 v10 v23)=v:=⟨_,rfl⟩
         have s28:valB v10=true:=by exact qT (vx_at hx s8) s11 e10
         have s29:valB v23=true:=by exact qT (vx_at hx s21) s24 e23
         obtain ⟨v30,e30⟩:∃v,(valB v27)=v:=⟨_,rfl⟩
         obtain ⟨v31,e31⟩:∃v,(!v30)=v:=⟨_,rfl⟩
         cases h32:v31 with
         | true =>
          exfalso;have dh2:=ne_of_beq_false (e1.trans h2);have dh4:=ne_of_beq_false (e3.trans h4);have dh14:=ne_of_beq_false h14;have dh15:=ne_of_beq_false h15;have dh16:=ne_of_beq_false h16;have dh17:=eq_of_beq h17;have q:=zay (args:=args) hx (by assumption) (by assumption) s7 s20 s8 s21;rw [zD s11 e10,zD s24 e23] at q;have q:evalX args e=valO (operX e.op _ _):=q;rw [dh17] at q;rw [hs] at q;have z:=zaB q.symm;rw [e27] at z;simp_all
         | false =>
          have r0:r=v27:=by
           have dh2:=ne_of_beq_false (e1.trans h2);have dh4:=ne_of_beq_false (e3.trans h4);have dh14:=ne_of_beq_false h14;have dh15:=ne_of_beq_false h15;have dh16:=ne_of_beq_false h16;have dh17:=eq_of_beq h17;have q:=zay (args:=args) hx (by assumption) (by assumption) s7 s20 s8 s21;rw [zD s11 e10,zD s24 e23] at q;have q:evalX args e=valO (operX e.op _ _):=q;rw [dh17] at q;rw [hs] at q;have z:=(qv q.symm).1;rw [z,e27]
          rw [r0];exact zmN e args N IH v1 v3 n5 x6 v10 n18 x19 v23 v27 v30 v31 e1 e3 e10 e23 e27 e30 e31 h2 h4 s7 s8 h9 s11 s12 s13 h14 h15 h16 h17 s20 s21 h22 s24 s25 s26 s28 s29 h32
        | false =>
         exfalso;have dh2:=ne_of_beq_false (e1.trans h2);have dh4:=ne_of_beq_false (e3.trans h4);have dh14:=ne_of_beq_false h14;have dh15:=ne_of_beq_false h15;have dh16:=ne_of_beq_false h16;have dh17:=eq_of_beq h17;rw [zcm (args:=args) hx (by assumption) (by assumption) s21 h22] at hs;cases hs
       | false =>
        have s18:(e.op == (7:Int))=true:=by (have dh2:=ne_of_beq_false (e1.trans h2);have dh4:=ne_of_beq_false (e3.trans h4);have dh14:=ne_of_beq_false h14;have dh15:=ne_of_beq_false h15;have dh16:=ne_of_beq_false h16;have dh17:=ne_of_beq_false h17;obtain ⟨a,b,q1,q2,q3,_⟩:=vx_op hx (by assumption) (by assumption);exact beq_iff_eq.2 (by omega))
        obtain ⟨n19,x20,s21,s22⟩:∃(n19:Nat) (x20:Xp),(1:Int)=(n19:Int)∧e.l[n19]?=some x20:=by (have dh2:=ne_of_beq_false (e1.trans h2);have dh4:=ne_of_beq_false (e3.trans h4);have dh14:=ne_of_beq_false h14;have dh15:=ne_of_beq_false h15;have dh16:=ne_of_beq_false h16;have dh17:=ne_of_beq_false h17;obtain ⟨a,b,q1,q2⟩:=zaq (n:=0) (m:=0) hx (by assumption) (by assumption);exact ⟨1,_,rfl,q2⟩)
        cases h23:(evalX args x20).isSome with
        | true =>
         obtain ⟨v24,e24⟩:∃v,((evalX args x20).getD 0)=v:=⟨_,rfl⟩
         have s25:(evalX args x20).isSome=true:=by assumption
         have s26:Vx args.length x20:=by exact vx_at hx s22
         have s27:nodes x20≤N:=by exact zu hN s22
         obtain ⟨v28,e28⟩:∃v,(operX 7 v10 v24)=v:=⟨_,rfl⟩
         have s29:valB v10=true:=by exact qT (vx_at hx s8) s11 e10
         have s30:valB v24=true:=by exact qT (vx_at hx s22) s25 e24
         obtain ⟨v31,e31⟩:∃v,(valB v28)=v:=⟨_,rfl⟩
         obtain ⟨v32,e32⟩:∃v,(!v31)=v:=⟨_,rfl⟩
         cases h33:v32 with
         | true =>
          exfalso;have dh2:=ne_of_beq_false (e1.trans h2);have dh4:=ne_of_beq_false (e3.trans h4);have dh14:=ne_of_beq_false h14;have dh15:=ne_of_beq_false h15;have dh16:=ne_of_beq_false h16;have dh17:=ne_of_beq_false h17;have q:=zay (args:=args) hx (by assumption) (by assumption) s7 s21 s8 s22;rw [zD s11 e10,zD s25 e24] at q;have q:evalX args e=valO (operX e.op _ _):=q;rw [(eq_of_beq s18)] at q;rw [hs] at q;have z:=zaB q.symm;rw [e28] at z;simp_all
         | false =>
          have r0:r=v28:=by
           have dh2:=ne_of_beq_false (e1.trans h2);have dh4:=ne_of_beq_false (e3.trans h4);have dh14:=ne_of_beq_false h14;have dh15:=ne_of_beq_false h15;have dh16:=ne_of_beq_false h16;have dh17:=ne_of_beq_false h17;have q:=zay (args:=args) hx (by assumption) (by assumption) s7 s21 s8 s22;rw [zD s11 e10,zD s25 e24] at q;have q:evalX args e=valO (operX e.op _ _):=q;rw [(eq_of_beq s18)] at q;rw [hs] at q;have z:=(qv q.symm).1;rw [z,e28]
          rw [r0];exact zmQ e args N IH v1 v3 n5 x6 v10 n19 x20 v24 v28 v31 v32 e1 e3 e10 e24 e28 e31 e32 h2 h4 s7 s8 h9 s11 s12 s13 h14 h15 h16 h17 s18 s21 s22 h23 s25 s26 s27 s29 s30 h33
        | false =>
         exfalso;have dh2:=ne_of_beq_false (e1.trans h2);have dh4:=ne_of_beq_false (e3.trans h4);have dh14:=ne_of_beq_false h14;have dh15:=ne_of_beq_false h15;have dh16:=ne_of_beq_false h16;have dh17:=ne_of_beq_false h17;rw [zcm (args:=args) hx (by assumption) (by assumption) s22 h23] at hs;cases hs
   | false =>
    exfalso;have dh2:=ne_of_beq_false (e1.trans h2);have dh4:=ne_of_beq_false (e3.trans h4);rw [zcm (args:=args) hx (by assumption) (by assumption) s8 h9] at hs;cases hs
theorem ziN {w0:World} {N:Nat} {args:List Int} (IH:zY w0 args N) (e:Xp) (k:Int) (hk:(3:Int)=k) (hs:evalX args e=none) (hx:Vx args.length e) (hN:nodes e≤N+1):BFun true (KN w0) Tryz.prog 63 [.o (.g [.d (pI e.op),.d (pI e.n),.d (pLs cE e.l)]),.o (.c (.p 0 0)),.o (.c (.p 1 0)),.o (.c (.p 2 0))] [(22,[.d (pLs cI args)]),(89,[.q 63 [(0,0),(1,0),(2,0)]]),(88,[.d pM])] (.o (.c (.d (pV (.iface 44 (.int .i64 k)))))) [(22,[.d (pLs cI args)]),(89,[.q 63 [(0,0),(1,0),(2,0)]]),(88,[.d pM])]:=by
 obtain ⟨v1,e1⟩:∃v,((e.op == (1:Int)))=v:=⟨_,rfl⟩
 cases h2:v1 with
 | true =>
  obtain ⟨v3,e3⟩:∃v,(valB e.n)=v:=⟨_,rfl⟩
  obtain ⟨v4,e4⟩:∃v,(!v3)=v:=⟨_,rfl⟩
  cases h5:v4 with
  | true =>
   obtain ⟨v6,e6⟩:∃v,((3:Int))=v:=⟨_,rfl⟩
   have r0:k=v6:=by
    rw [← hk];assumption
   rw [r0];exact zoz e args N IH v1 v3 v4 v6 e1 e3 e4 e6 h2 h5
  | false =>
   exfalso;have dh2:=eq_of_beq (e1.trans h2);have q:=zjF (args:=args) hx (by assumption);rw [hs] at q;have z:=zaA q.symm;simp_all
 | false =>
  obtain ⟨v3,e3⟩:∃v,((e.op == (2:Int)))=v:=⟨_,rfl⟩
  cases h4:v3 with
  | true =>
   obtain ⟨n5,x6,s7,s8⟩:∃(n5:Nat) (x6:Int),e.n=(n5:Int)∧args[n5]?=some x6:=by (have dh2:=ne_of_beq_false (e1.trans h2);have dh4:=eq_of_beq (e3.trans h4);have q:=znn (args:=args) hx (by assumption);exact ⟨e.n.toNat,_,by omega,List.getElem?_eq_getElem (by omega)⟩)
   obtain ⟨v9,e9⟩:∃v,(valB x6)=v:=⟨_,rfl⟩
   obtain ⟨v10,e10⟩:∃v,(!v9)=v:=⟨_,rfl⟩
   cases h11:v10 with
   | true =>
    obtain ⟨v12,e12⟩:∃v,((3:Int))=v:=⟨_,rfl⟩
    have r0:k=v12:=by
     rw [← hk];assumption
    rw [r0];exact zoB e args N IH v1 v3 n5 x6 v9 v10 v12 e1 e3 e9 e10 e12 h2 h4 s7 s8 h11
   | false =>
    exfalso;have dh2:=ne_of_beq_false (e1.trans h2);have dh4:=eq_of_beq (e3.trans h4);have q:=zjE (args:=args) hx (by assumption);rw [zgu s7 s8] at q;rw [hs] at q;have z:=zaA q.symm;simp_all
  | false =>
   obtain ⟨n5,x6,s7,s8⟩:∃(n5:Nat) (x6:Xp),(0:Int)=(n5:Int)∧e.l[n5]?=some x6:=by (have dh2:=ne_of_beq_false (e1.trans h2);have dh4:=ne_of_beq_false (e3.trans h4);obtain ⟨a,b,q1,q2⟩:=zaq (n:=0) (m:=0) hx (by assumption) (by assumption);exact ⟨0,_,rfl,q1⟩)
   cases h9:(evalX args x6).isSome with
   | true =>
    obtain ⟨v10,e10⟩:∃v,((evalX args x6).getD 0)=v:=⟨_,rfl⟩
    have s11:(evalX args x6).isSome=true:=by assumption
    have s12:Vx args.length x6:=by exact vx_at hx s8
    have s13:nodes x6≤N:=by exact zu hN s8
    cases h14:(e.op == (3:Int)) with
    | true =>
     obtain ⟨n15,x16,s17,s18⟩:∃(n15:Nat) (x16:Xp),(1:Int)=(n15:Int)∧e.l[n15]?=some x16:=by (have dh2:=ne_of_beq_false (e1.trans h2);have dh4:=ne_of_beq_false (e3.trans h4);have dh14:=eq_of_beq h14;obtain ⟨a,b,q1,q2⟩:=zaq (n:=0) (m:=0) hx (by assumption) (by assumption);exact ⟨1,_,rfl,q2⟩)
     cases h19:(evalX args x16).isSome with
     | true =>
      obtain ⟨v20,e20⟩:∃v,((evalX args x16).getD 0)=v:=⟨_,rfl⟩
      have s21:(evalX args x16).isSome=true:=by assumption
      have s22:Vx args.length x16:=by exact vx_at hx s18
      have s23:nodes x16≤N:=by exact zu hN s18
      obtain ⟨v24,e24⟩:∃v,(operX 3 v10 v20)=v:=⟨_,rfl⟩
      have s25:valB v10=true:=by exact qT (vx_at hx s8) s11 e10
      have s26:valB v20=true:=by exact qT (vx_at hx s18) s21 e20
      obtain ⟨v27,e27⟩:∃v,(valB v24)=v:=⟨_,rfl⟩
      obtain ⟨v28,e28⟩:∃v,(!v27)=v:=⟨_,rfl⟩
      cases h29:v28 with
      | true =>
       obtain ⟨v30,e30⟩:∃v,((3:Int))=v:=⟨_,rfl⟩
       have r0:k=v30:=by
        rw [← hk];assumption
       rw [r0];exact zoD e args N IH v1 v3 n5 x6 v10 n15 x16 v20 v24 v27 v28 v30 e1 e3 e10 e20 e24 e27 e28 e30 h2 h4 s7 s8 h9 s11 s12 s13 h14 s17 s18 h19 s21 s22 s23 s25 s26 h29
      | false =>
       exfalso;have dh2:=ne_of_beq_false (e1.trans h2);have dh4:=ne_of_beq_false (e3.trans h4);have dh14:=eq_of_beq h14;have q:=zay (args:=args) hx (by assumption) (by assumption) s7 s17 s8 s18;rw [zD s11 e10,zD s21 e20] at q;have q:evalX args e=valO (operX e.op _ _):=q;rw [dh14] at q;rw [hs] at q;have z:=zaA q.symm;rw [e24] at z;simp_all
     | false =>
      obtain ⟨v20,e20⟩:∃v,((3:Int))=v:=⟨_,rfl⟩
      have s21:(evalX args x16).isSome=false:=by assumption
      have s22:Vx args.length x16:=by exact vx_at hx s18
      have s23:nodes x16≤N:=by exact zu hN s18
      have r0:k=v20:=by
       rw [← hk];assumption
      rw [r0];exact zoF e args N IH v1 v3 n5 x6 v10 n15 x16 v20 e1 e3 e10 e20 h2 h4 s7 s8 h9 s11 s12 s13 h14 s17 s18 h19 s21 s22 s23
    | false =>
     cases h15:(e.op == (4:Int)) with
     | true =>
      obtain ⟨n16,x17,s18,s19⟩:∃(n16:Nat) (x17:Xp),(1:Int)=(n16:Int)∧e.l[n16]?=some x17:=by (have dh2:=ne_of_beq_false (e1.trans h2);have dh4:=ne_of_beq_false (e3.trans h4);have dh14:=ne_of_beq_false h14;have dh15:=eq_of_beq h15;obtain ⟨a,b,q1,q2⟩:=zaq (n:=0) (m:=0) hx (by assumption) (by assumption);exact ⟨1,_,rfl,q2⟩)
      cases h20:(evalX args x17).isSome with
      | true =>
       obtain ⟨v21,e21⟩:∃v,((evalX args x17).getD 0)=v:=⟨_,rfl⟩
       have s22:(evalX args x17).isSome=true:=by assumption
       have s23:Vx args.length x17:=by exact vx_at hx s19
       have s24:nodes x17≤N:=by exact zu hN s19
       obtain ⟨v25,e25⟩:∃v,(operX 4 v10 v21)=v:=⟨_,rfl⟩
       have s26:valB v10=true:=by exact qT (vx_at hx s8) s11 e10
       have s27:valB v21=true:=by exact qT (vx_at hx s19) s22 e21
       obtain ⟨v28,e28⟩:∃v,(valB v25)=v:=⟨_,rfl⟩
       obtain ⟨v29,e29⟩:∃v,(!v28)=v:=⟨_,rfl⟩
       cases h30:v29 with
       | true =>
        obtain ⟨v31,e31⟩:∃v,((3:Int))=v:=⟨_,rfl⟩
        have r0:k=v31:=by
         rw [← hk];assumption
        rw [r0];exact zoG e args N IH v1 v3 n5 x6 v10 n16 x17 v21 v25 v28 v29 v31 e1 e3 e10 e21 e25 e28 e29 e31 h2 h4 s7 s8 h9 s11 s12 s13 h14 h15 s18 s19 h20 s22 s23 s24 s26 s27 h30
       | false =>
        exfalso;have dh2:=ne_of_beq_false (e1.trans h2);have dh4:=ne_of_beq_false (e3.trans h4);have dh14:=ne_of_beq_false h14;have dh15:=eq_of_beq h15;have q:=zay (args:=args) hx (by assumption) (by assumption) s7 s18 s8 s19;rw [zD s11 e10,zD s22 e21] at q;have q:evalX args e=valO (operX e.op _ _):=q;rw [dh15] at q;rw [hs] at q;have z:=zaA q.symm;rw [e25] at z;simp_all
      | false =>
       obtain ⟨v21,e21⟩:∃v,((3:Int))=v:=⟨_,rfl⟩
       have s22:(evalX args x17).isSome=false:=by assumption
       have s23:Vx args.length x17:=by exact vx_at hx s19
       have s24:nodes x17≤N:=by exact zu hN s19
       have r0:k=v21:=by
        rw [← hk];assumption
       rw [r0];exact zoI e args N IH v1 v3 n5 x6 v10 n16 x17 v21 e1 e3 e10 e21 h2 h4 s7 s8 h9 s11 s12 s13 h14 h15 s18 s19 h20 s22 s23 s24
     | false =>
      cases h16:(e.op == (5:Int)) with
      | true =>
       obtain ⟨n17,x18,s19,s20⟩:∃(n17:Nat) (x18:Xp),(1:Int)=(n17:Int)∧e.l[n17]?=some x18:=by (have dh2:=ne_of_beq_false (e1.trans h2);have dh4:=ne_of_beq_false (e3.trans h4);have dh14:=ne_of_beq_false h14;have dh15:=ne_of_beq_false h15;have dh16:=eq_of_beq h16;obtain ⟨a,b,q1,q2⟩:=zaq (n:=0) (m:=0) hx (by assumption) (by assumption);exact ⟨1,_,rfl,q2⟩)
       cases h21:(evalX args x18).isSome with
       | true =>
        obtain ⟨v22,e22⟩:∃v,((evalX args x18).getD 0)=v:=⟨_,rfl⟩
        have s23:(evalX args x18).isSome=true:=by assumption
        have s24:Vx args.length x18:=by exact vx_at hx s20
        have s25:nodes x18≤N:=by exact zu hN s20
        obtain ⟨v26,e26⟩:∃v,(operX 5 v10 v22)=v:=⟨_,rfl⟩
        have s27:valB v10=true:=by exact qT (vx_at hx s8) s11 e10
        have s28:valB v22=true:=by exact qT (vx_at hx s20) s23 e22
        obtain ⟨v29,e29⟩:∃v,(valB v26)=v:=⟨_,rfl⟩
        obtain ⟨v30,e30⟩:∃v,(!v29)=v:=⟨_,rfl⟩
        cases h31:v30 with
        | true =>
         obtain ⟨v32,e32⟩:∃v,((3:Int))=v:=⟨_,rfl⟩
         have r0:k=v32:=by
          rw [← hk];assumption
         rw [r0];exact zmJ e args N IH v1 v3 n5 x6 v10 n17 x18 v22 v26 v29 v30 v32 e1 e3 e10 e22 e26 e29 e30 e32 h2 h4 s7 s8 h9 s11 s12 s13 h14 h15 h16 s19 s20 h21 s23 s24 s25 s27 s28 h31
        | false =>
         exfalso;have dh2:=ne_of_beq_false (e1.trans h2);have dh4:=ne_of_beq_false (e3.trans h4);have dh14:=ne_of_beq_false h14;have dh15:=ne_of_beq_false h15;have dh16:=eq_of_beq h16;have q:=zay (args:=args) hx (by assumption) (by assumption) s7 s19 s8 s20;rw [zD s11 e10,zD s23 e22] at q;have q:evalX args e=valO (operX e.op _ _):=q;rw [dh16] at q;rw [hs] at q;have z:=zaA q.symm;rw [e26] at z;simp_all
       | false =>
        obtain ⟨v22,e22⟩:∃v,((3:Int))=v:=⟨_,rfl⟩
        have s23:(evalX args x18).isSome=false:=by assumption
        have s24:Vx args.length x18:=by exact vx_at hx s20
        have s25:nodes x18≤N:=by exact zu hN s20
        have r0:k=v22:=by
         rw [← hk];assumption
        rw [r0];exact zmL e args N IH v1 v3 n5 x6 v10 n17 x18 v22 e1 e3 e10 e22 h2 h4 s7 s8 h9 s11 s12 s13 h14 h15 h16 s19 s20 h21 s23 s24 s25
      | false =>
       cases h17:(e.op == (6:Int)) with
       | true =>
        obtain ⟨n18,x19,s20,s21⟩:∃(n18:Nat) (x19:Xp),(1:Int)=(n18:Int)∧e.l[n18]?=some x19:=by (have dh2:=ne_of_beq_false (e1.trans h2);have dh4:=ne_of_beq_false (e3.trans h4);have dh14:=ne_of_beq_false h14;have dh15:=ne_of_beq_false h15;have dh16:=ne_of_beq_false h16;have dh17:=eq_of_beq h17;obtain ⟨a,b,q1,q2⟩:=zaq (n:=0) (m:=0) hx (by assumption) (by assumption);exact ⟨1,_,rfl,q2⟩)
        cases h22:(evalX args x19).isSome with
        | true =>
         obtain ⟨v23,e23⟩:∃v,((evalX args x19).getD 0)=v:=⟨_,rfl⟩
         have s24:(evalX args x19).isSome=true:=by assumption
         have s25:Vx args.length x19:=by exact vx_at hx s21
         have s26:nodes x19≤N:=by exact zu hN s21
         obtain ⟨v27,e27⟩:∃v,(operX 6 v10 v23)=v:=⟨_,rfl⟩
         have s28:valB v10=true:=by exact qT (vx_at hx s8) s11 e10
         have s29:valB v23=true:=by exact qT (vx_at hx s21) s24 e23
         obtain ⟨v30,e30⟩:∃v,(valB v27)=v:=⟨_,rfl⟩
         obtain ⟨v31,e31⟩:∃v,(!v30)=v:=⟨_,rfl⟩
         cases h32:v31 with
         | true =>
          obtain ⟨v33,e33⟩:∃v,((3:Int))=v:=⟨_,rfl⟩
          have r0:k=v33:=by
           rw [← hk];assumption
          rw [r0];exact zmM e args N IH v1 v3 n5 x6 v10 n18 x19 v23 v27 v30 v31 v33 e1 e3 e10 e23 e27 e30 e31 e33 h2 h4 s7 s8 h9 s11 s12 s13 h14 h15 h16 h17 s20 s21 h22 s24 s25 s26 s28 s29 h32
         | false =>
          exfalso;have dh2:=ne_of_beq_false (e1.trans h2);have dh4:=ne_of_beq_false (e3.trans h4);have dh14:=ne_of_beq_false h14;have dh15:=ne_of_beq_false h15;have dh16:=ne_of_beq_false h16;have dh17:=eq_of_beq h17;have q:=zay (args:=args) hx (by assumption) (by assumption) s7 s20 s8 s21;rw [zD s11 e10,zD s24 e23] at q;have q:evalX args e=valO (operX e.op _ _):=q;rw [dh17] at q;rw [hs] at q;have z:=zaA q.symm;rw [e27] at z;simp_all
        | false =>
         obtain ⟨v23,e23⟩:∃v,((3:Int))=v:=⟨_,rfl⟩
         have s24:(evalX args x19).isSome=false:=by assumption
         have s25:Vx args.length x19:=by exact vx_at hx s21
         have s26:nodes x19≤N:=by exact zu hN s21
         have r0:k=v23:=by
          rw [← hk];assumption
         rw [r0];exact zmO e args N IH v1 v3 n5 x6 v10 n18 x19 v23 e1 e3 e10 e23 h2 h4 s7 s8 h9 s11 s12 s13 h14 h15 h16 h17 s20 s21 h22 s24 s25 s26
       | false =>
        have s18:(e.op == (7:Int))=true:=by (have dh2:=ne_of_beq_false (e1.trans h2);have dh4:=ne_of_beq_false (e3.trans h4);have dh14:=ne_of_beq_false h14;have dh15:=ne_of_beq_false h15;have dh16:=ne_of_beq_false h16;have dh17:=ne_of_beq_false h17;obtain ⟨a,b,q1,q2,q3,_⟩:=vx_op hx (by assumption) (by assumption);exact beq_iff_eq.2 (by omega))
        obtain ⟨n19,x20,s21,s22⟩:∃(n19:Nat) (x20:Xp),(1:Int)=(n19:Int)∧e.l[n19]?=some x20:=by (have dh2:=ne_of_beq_false (e1.trans h2);have dh4:=ne_of_beq_false (e3.trans h4);have dh14:=ne_of_beq_false h14;have dh15:=ne_of_beq_false h15;have dh16:=ne_of_beq_false h16;have dh17:=ne_of_beq_false h17;obtain ⟨a,b,q1,q2⟩:=zaq (n:=0) (m:=0) hx (by assumption) (by assumption);exact ⟨1,_,rfl,q2⟩)
        cases h23:(evalX args x20).isSome with
        | true =>
         obtain ⟨v24,e24⟩:∃v,((evalX args x20).getD 0)=v:=⟨_,rfl⟩
         have s25:(evalX args x20).isSome=true:=by assumption
         have s26:Vx args.length x20:=by exact vx_at hx s22
         have s27:nodes x20≤N:=by exact zu hN s22
         obtain ⟨v28,e28⟩:∃v,(operX 7 v10 v24)=v:=⟨_,rfl⟩
         have s29:valB v10=true:=by exact qT (vx_at hx s8) s11 e10
         have s30:valB v24=true:=by exact qT (vx_at hx s22) s25 e24
         obtain ⟨v31,e31⟩:∃v,(valB v28)=v:=⟨_,rfl⟩
         obtain ⟨v32,e32⟩:∃v,(!v31)=v:=⟨_,rfl⟩
         cases h33:v32 with
         | true =>
          obtain ⟨v34,e34⟩:∃v,((3:Int))=v:=⟨_,rfl⟩
          have r0:k=v34:=by
           rw [← hk];assumption
          rw [r0];exact zmP e args N IH v1 v3 n5 x6 v10 n19 x20 v24 v28 v31 v32 v34 e1 e3 e10 e24 e28 e31 e32 e34 h2 h4 s7 s8 h9 s11 s12 s13 h14 h15 h16 h17 s18 s21 s22 h23 s25 s26 s27 s29 s30 h33
         | false =>
          exfalso;have dh2:=ne_of_beq_false (e1.trans h2);have dh4:=ne_of_beq_false (e3.trans h4);have dh14:=ne_of_beq_false h14;have dh15:=ne_of_beq_false h15;have dh16:=ne_of_beq_false h16;have dh17:=ne_of_beq_false h17;have q:=zay (args:=args) hx (by assumption) (by assumption) s7 s21 s8 s22;rw [zD s11 e10,zD s25 e24] at q;have q:evalX args e=valO (operX e.op _ _):=q;rw [(eq_of_beq s18)] at q;rw [hs] at q;have z:=zaA q.symm;rw [e28] at z;simp_all
        | false =>
         obtain ⟨v24,e24⟩:∃v,((3:Int))=v:=⟨_,rfl⟩
         have s25:(evalX args x20).isSome=false:=by assumption
         have s26:Vx args.length x20:=by exact vx_at hx s22
         have s27:nodes x20≤N:=by exact zu hN s22
         have r0:k=v24:=by
          rw [← hk];assumption
         rw [r0];exact zmR e args N IH v1 v3 n5 x6 v10 n19 x20 v24 e1 e3 e10 e24 h2 h4 s7 s8 h9 s11 s12 s13 h14 h15 h16 h17 s18 s21 s22 h23 s25 s26 s27
   | false =>
    obtain ⟨v10,e10⟩:∃v,((3:Int))=v:=⟨_,rfl⟩
    have s11:(evalX args x6).isSome=false:=by assumption
    have s12:Vx args.length x6:=by exact vx_at hx s8
    have s13:nodes x6≤N:=by exact zu hN s8
    have r0:k=v10:=by
     rw [← hk];assumption
    rw [r0];exact zmS e args N IH v1 v3 n5 x6 v10 e1 e3 e10 h2 h4 s7 s8 h9 s11 s12 s13
theorem zc6 {w0:World} {args:List Int}:∀N:Nat,zY w0 args N
 | 0=>fun x _ h=>by have:=qk x;omega
 | N+1=>fun x hx h=>⟨fun v h1 h2=>zlg (zc6 N) x v (zD h1 h2) hx h,fun k hk h1=>ziN (zc6 N) x k hk (by cases q:evalX args x with | none=>rfl | some _=>rw [q] at h1;cases h1) hx h⟩
theorem zoy {w0:World} {args:List Int} (x:Xp) (v:Int) (hv:evalX args x=some v) (hx:Vx args.length x):BFun false (KN w0) Tryz.prog 63 [.o (.g [.d (pI x.op),.d (pI x.n),.d (pLs cE x.l)]),.o (.c (.p 0 0)),.o (.c (.p 1 0)),.o (.c (.p 2 0))] [(22,[.d (pLs cI args)]),(89,[.q 63 [(0,0),(1,0),(2,0)]]),(88,[.d pM])] (.o (.c (.d (pI v)))) [(22,[.d (pLs cI args)]),(89,[.q 63 [(0,0),(1,0),(2,0)]]),(88,[.d pM])]:=(zc6 (nodes x) x hx (Nat.le_refl _)).1 v (by rw [hv];rfl) (by rw [hv];rfl)
theorem zmT {w0:World} {args:List Int} (x:Xp) (hv:evalX args x=none) (hx:Vx args.length x):BFun true (KN w0) Tryz.prog 63 [.o (.g [.d (pI x.op),.d (pI x.n),.d (pLs cE x.l)]),.o (.c (.p 0 0)),.o (.c (.p 1 0)),.o (.c (.p 2 0))] [(22,[.d (pLs cI args)]),(89,[.q 63 [(0,0),(1,0),(2,0)]]),(88,[.d pM])] (.o (.c (.d (pV (.iface 44 (.int .i64 3)))))) [(22,[.d (pLs cI args)]),(89,[.q 63 [(0,0),(1,0),(2,0)]]),(88,[.d pM])]:=(zc6 (nodes x) x hx (Nat.le_refl _)).2 3 rfl (by rw [hv];rfl)
end Go.Proofs.YtdkofaajcpcjkaaGreatDoor
namespace Go.Proofs.YtdkofaajcpcjkaaGreatDoor
open Go.RowKit
theorem zmI {w0:World} (x:Xp) (args:List Int) (v:Int) (e:(evalX args x).getD 0=v) (h1:(evalX args x).isSome=true) (h2:Vx args.length x):BFun false (KN w0) Tryz.prog 63 [.o (.g [.d (pI x.op),.d (pI x.n),.d (pLs cE x.l)]),.o (.c (.p 0 0)),.o (.c (.p 1 0)),.o (.c (.p 2 0))] [(22,[.d (pLs cI args)]),(89,[.q 63 [(0,0),(1,0),(2,0)]]),(88,[.d pM])] (.o (.c (.d (pI v)))) [(22,[.d (pLs cI args)]),(89,[.q 63 [(0,0),(1,0),(2,0)]]),(88,[.d pM])]:=zoy x v (zD h1 e) h2
theorem zlh {w0:World} (x:Xp) (args:List Int) (v:Int) (e:(3:Int)=v) (h1:evalX args x=none) (h2:Vx args.length x):BFun true (KN w0) Tryz.prog 63 [.o (.g [.d (pI x.op),.d (pI x.n),.d (pLs cE x.l)]),.o (.c (.p 0 0)),.o (.c (.p 1 0)),.o (.c (.p 2 0))] [(22,[.d (pLs cI args)]),(89,[.q 63 [(0,0),(1,0),(2,0)]]),(88,[.d pM])] (.o (.c (.d (pV (.iface 44 (.int .i64 v)))))) [(22,[.d (pLs cI args)]),(89,[.q 63 [(0,0),(1,0),(2,0)]]),(88,[.d pM])]:=e ▸ zmT x h1 h2
theorem zmV {w0:World} (args:(List Int)) (e:Xp) (n:Int) (v1:Int) (e1:((evalX args e).getD 0)=v1) (s2:(evalX args e).isSome=true) (s3:Vx args.length e):BFun false (KN w0) Tryz.prog 65 [.o (.c (.p 1 0)),.o (.c (.p 3 0)),.o (.c (.p 4 0))] [(22,[.d (pLs cI args)]),(89,[.q 63 [(0,0),(1,0),(2,0)]]),(88,[.d (pM)]),(32,[.d (pI e.op),.d (pI e.n),.d (pLs cE e.l)]),(3,[.d (pI n)])] (.t []) [(22,[.d (pLs cI args)]),(89,[.q 63 [(0,0),(1,0),(2,0)]]),(88,[.d (pM)]),(32,[.d (pI e.op),.d (pI e.n),.d (pLs cE e.l)]),(3,[.d (pI v1)])] :=
 con_b (pan:=false) (zr (F:=FL [pLs cI args,pM,pI e.op,pI e.n,pLs cE e.l,pI n,pI v1] []) (C:=[(1000002,.call ⟨63,[.o (.g [.h 2,.h 3,.h 4]),.o (.c (.p 900 0)),.o (.c (.p 901 0)),.o (.c (.p 902 0))],[.bx 900 22 [.h 0],.bx 901 89 [.q 63 [(900,0),(901,0),(902,0)]],.bx 902 88 [.h 1]],yh 6,[.bx 900 22 [.h 0],.bx 901 89 [.q 63 [(900,0),(901,0),(902,0)]],.bx 902 88 [.h 1]]⟩)]) (k:=⟨65,[.o (.c (.p 901 0)),.o (.c (.p 903 0)),.o (.c (.p 904 0))],[.bx 900 22 [.h 0],.bx 901 89 [.q 63 [(900,0),(901,0),(902,0)]],.bx 902 88 [.h 1],.bx 903 32 [.h 2,.h 3,.h 4],.bx 904 3 [.h 5]],.t [],[.bx 900 22 [.h 0],.bx 901 89 [.q 63 [(900,0),(901,0),(902,0)]],.bx 902 88 [.h 1],.bx 903 32 [.h 2,.h 3,.h 4],.bx 904 3 [.h 6]]⟩) 0 (zg ⟨(ze zt),zR,za,za,(ze (zf rfl)),za,za,trivial⟩) ⟨b_con (pan:=false) (zmI e args v1 e1 s2 s3),
  trivial⟩ mixed (by kernel_rfl))
theorem zlv {w0:World} (args:(List Int)) (e:Xp) (n:Int) (v1:Int) (e1:((3:Int))=v1) (s2:evalX args e=none) (s3:Vx args.length e):BFun true (KN w0) Tryz.prog 65 [.o (.c (.p 1 0)),.o (.c (.p 3 0)),.o (.c (.p 4 0))] [(22,[.d (pLs cI args)]),(89,[.q 63 [(0,0),(1,0),(2,0)]]),(88,[.d (pM)]),(32,[.d (pI e.op),.d (pI e.n),.d (pLs cE e.l)]),(3,[.d (pI n)])] (.o (.c (.d (pV (.iface 44 (.int .i64 v1)))))) [(22,[.d (pLs cI args)]),(89,[.q 63 [(0,0),(1,0),(2,0)]]),(88,[.d (pM)]),(32,[.d (pI e.op),.d (pI e.n),.d (pLs cE e.l)]),(3,[.d (pI n)])] :=
 con_b (pan:=true) (qg (F:=FL [pLs cI args,pM,pI e.op,pI e.n,pLs cE e.l,pI n,pV (.iface 44 (.int .i64 v1))] []) (C:=[(1000002,.pan ⟨63,[.o (.g [.h 2,.h 3,.h 4]),.o (.c (.p 900 0)),.o (.c (.p 901 0)),.o (.c (.p 902 0))],[.bx 900 22 [.h 0],.bx 901 89 [.q 63 [(900,0),(901,0),(902,0)]],.bx 902 88 [.h 1]],yh 6,[.bx 900 22 [.h 0],.bx 901 89 [.q 63 [(900,0),(901,0),(902,0)]],.bx 902 88 [.h 1]]⟩)]) (k:=⟨65,[.o (.c (.p 901 0)),.o (.c (.p 903 0)),.o (.c (.p 904 0))],[.bx 900 22 [.h 0],.bx 901 89 [.q 63 [(900,0),(901,0),(902,0)]],.bx 902 88 [.h 1],.bx 903 32 [.h 2,.h 3,.h 4],.bx 904 3 [.h 5]],yh 6,[.bx 900 22 [.h 0],.bx 901 89 [.q 63 [(900,0),(901,0),(902,0)]],.bx 902 88 [.h 1],.bx 903 32 [.h 2,.h 3,.h 4],.bx 904 3 [.h 5]]⟩) ⟨[],[],0⟩ [] 0 (zg ⟨(ze zt),zR,za,za,(ze (zf rfl)),za,za,trivial⟩) ⟨b_con (pan:=true) (zlh e args v1 e1 s2 s3),
  trivial⟩ mixed trivial (fun _ _ _ _ _ hs=>by cases hs) (by kernel_rfl))
theorem znH {K:Kit} {F:Fact} {R:Frm} {st:List Atom} {a a':Act} {W W':World} {b q r d:Nat} {T:TypeId} {ls:List Lf} {vs:Array Value} (hF:Fine K F) (hI:Inv K F R st a W) (hsz:a'.tmps.size=R.pm.nt) (hdf:a'.defers=[]) (hsl:∀s x,Atom.sl s x∈st→a'.tmps.getD s undef=a.tmps.getD s undef) (hb:b ∉ R.pm.pn) (hnb:∀A∈st,A.has b=false) (hB:Below W.heap.size W W') (hr:W.heap.size≤r∧r<W'.heap.size) (hq:W.heap.size≤q∧q<W'.heap.size∧q≠r) (hc:W'.heap[q]?=some (.cells vs T (0,0))) (hl:∀β:Loc,β.D r→oks F β ls vs.toList W') (hck:vs.toList.all K.ck=true) (hbt:K.bt T=true) (hd:a'.tmps.getD d undef=.pointer (some ⟨q,0,none⟩)):Inv K F R (.sl d (.o (.c (.p b 0)))::.bx b T ls::st) a' W':=by
 obtain ⟨h1,h2,β,hE,hA⟩:=hI
 have hO:=zd5 hB
 have hs0:=hE.oth.size
 have hs1:=hE.geo.bel.size
 let β':Loc:=⟨(set β b q).bx,β.len,fun k=>β.D k∨k=r⟩
 have hne:∀c,c≠b→β.same β' c:=fun c hc=>⟨zcc hc,rfl⟩
 have hse:∀c p,β' c=some p→c=b∧p=q∨c≠b∧β c=some p:=by
  intro c p hp
  by_cases h:c=b
  ·subst h
   have:(set β c q).bx c=some p:=hp
   rw [qH] at this;injection this with this
   exact .inl ⟨rfl,this.symm⟩
  ·exact .inr ⟨h,(hne c h).1.symm.trans hp⟩
 refine ⟨hsz,hdf,β',⟨⟨fun c p hp=>?_,fun c d p hp hp2=>?_,hE.geo.bel.trans (hB.mono hs1),fun c p hp hD=>?_,fun p hp=>?_,fun p hp=>.inl (hE.geo.low p hp)⟩,hE.oth.trans hO (fun _ h=>h.elim),fun c hcn p hp=>?_,fun c hcn hcg=>?_,fun c hcn p hp=>?_,fun p hp=>.inl (hE.dm p hp),fun p hp=>?_⟩,fun A hAm=>?_⟩
 ·rcases hse c p hp with ⟨_,rfl⟩ | ⟨_,h⟩
  ·exact hq.2.1
  ·exact Nat.lt_of_lt_of_le (hE.geo.lt c p h) hB.size
 ·rcases hse c p hp with ⟨rfl,rfl⟩ | ⟨_,h⟩
  ·rcases hse d p hp2 with ⟨rfl,_⟩ | ⟨_,h⟩
   ·rfl
   ·have:=hE.geo.lt d p h;omega
  ·rcases hse d p hp2 with ⟨rfl,rfl⟩ | ⟨_,h'⟩
   ·have:=hE.geo.lt c p h;omega
   ·exact hE.geo.inj c d p h h'
 ·rcases hse c p hp with ⟨_,rfl⟩ | ⟨_,h⟩
  ·rcases hD with hD | hD
   ·have:=hE.geo.dlt p hD;omega
   ·exact hq.2.2 hD
  ·rcases hD with hD | hD
   ·exact hE.geo.dis c p h hD
   ·have:=hE.geo.lt c p h;omega
 ·rcases hp with hp | rfl
  ·exact Nat.lt_of_lt_of_le (hE.geo.dlt p hp) hB.size
  ·exact hr.2
 ·rcases hse c p hp with ⟨_,rfl⟩ | ⟨_,h⟩
  ·omega
  ·exact hE.own c hcn p h
 ·have h3:=hE.same c hcn hcg
  have h4:=hne c (fun e=>hb (e ▸ hcn))
  exact ⟨h4.1.trans h3.1,h4.2.trans h3.2⟩
 ·exact hE.mvd c hcn p ((hne c (fun e=>hb (e ▸ hcn))).1.symm.trans hp)
 ·rcases hp with hp | rfl
  ·exact hE.dn p hp
  ·exact .inr (by omega)
 ·rcases List.mem_cons.1 hAm with rfl | hAm
  ·exact ⟨q,qH ..,hd⟩
  ·rcases List.mem_cons.1 hAm with rfl | hAn
   ·exact ⟨q,vs,qH ..,hc,hl β' (.inr rfl),hck,hbt,by omega⟩
   ·exact Atom.mv (β:=β) (β':=β') hF (fun _ h=>h.elim) hO (fun p hp=>.inl hp) (fun s x e=>hsl s x (e ▸ hAn)) (fun c hc=>hne c fun e=>by rw [e,hnb A hAn] at hc;cases hc) (hA A hAn) (fun _ _ _ _ _ h=>h.elim)
theorem arr25 {t:Array Value} (h:t.size=25):∃x0 x1 x2 x3 x4 x5 x6 x7 x8 x9 x10 x11 x12 x13 x14 x15 x16 x17 x18 x19 x20 x21 x22 x23 x24,t=#[x0,x1,x2,x3,x4,x5,x6,x7,x8,x9,x10,x11,x12,x13,x14,x15,x16,x17,x18,x19,x20,x21,x22,x23,x24]:=by
 obtain ⟨l⟩:=t
 match l,h with
 | [x0,x1,x2,x3,x4,x5,x6,x7,x8,x9,x10,x11,x12,x13,x14,x15,x16,x17,x18,x19,x20,x21,x22,x23,x24],_=>exact ⟨x0,x1,x2,x3,x4,x5,x6,x7,x8,x9,x10,x11,x12,x13,x14,x15,x16,x17,x18,x19,x20,x21,x22,x23,x24,rfl⟩
theorem znG {W:World} {r n:Nat} {es:Array MapEntry} {k:Int} {v:Value} (hh:W.heap[r]?=some (.map es n)) (h:Instr.findNow (.int .i64) (.int .i64 k) es.toList 0=some none):(Instr.mapUpdate 88 (.map (some r)) (.int .i64 k) v).run Tryz.prog W=.ok () { W with heap:=W.heap.setIfInBounds r (.map (es.push ⟨.int .i64 k,v,n⟩) (n+1)) }:=by
 have hm:Tryz.prog.underlying 88=some (.map 3 70):=by kernel_rfl
 have hd:Tryz.prog.underlying 3=some (.int .i64):=by kernel_rfl
 simp [Instr.mapUpdate,run_underlying hm,MapKept.run_getObj_map hh,MapKept.run_checkKey hd (k:=.int .i64 k) (by trivial),MapKept.run_findKey hd h,MapKept.run_setObj_map _ hh,Result.andThen]
theorem zb2 {B:Nat} {W0 W:World} {r n:Nat} {es:Array MapEntry} (k:Int) (v:Value) (hb:Below B W0 W) (hr:B≤r) (hh:W.heap[r]?=some (.map es n)) (h:Instr.findNow (.int .i64) (.int .i64 k) es.toList 0=some none):∃W',(Instr.mapUpdate 88 (.map (some r)) (.int .i64 k) v).run Tryz.prog W=.ok () W'∧Below B W0 W'∧W'.heap[r]?=some (.map (es.push ⟨.int .i64 k,v,n⟩) (n+1))∧W'.heap.size=W.heap.size:=by
 refine ⟨_,znG hh h,⟨hb.os,hb.tape,hb.output,by simpa using hb.size,fun j hj=>?_⟩,?_,by simp⟩
 ·rw [← hb.block j hj]
  show (W.heap.setIfInBounds r _)[j]?=_
  rw [Array.getElem?_setIfInBounds_ne (by omega)]
 ·have hlt:r<W.heap.size:=(Array.getElem?_eq_some_iff.1 hh).1
  show (W.heap.setIfInBounds r _)[r]?=_
  simp [hlt]
theorem zfo {w0:World} {F:Fact} {ca cb c cd:Code} (hc:Tryz.f34.body=some (.seq ca (.seq cb (.seq c cd)))) (hF:Fine (KN w0) F) (h7:F.c 7=pM) (R:Frm) (hR:R.pm=⟨ntOf Tryz.prog 34,[],[]⟩):Goes (KN w0) Tryz.prog R c F [.sl 2 (.o (.c (.p 0 0))),.sl 3 (.o (.c (.p 1 0))),.bx 0 32 [.h 0,.h 1,.h 2],.bx 1 22 [.h 3]] .n F (.sl 7 (.o (.c (.p 18 0)))::.bx 18 88 [.h 7]::[.sl 2 (.o (.c (.p 0 0))),.sl 3 (.o (.c (.p 1 0))),.bx 0 32 [.h 0,.h 1,.h 2],.bx 1 22 [.h 3]]):=by
 intro Q a W hI hQ
 have hI0:=hI
 obtain ⟨hsz,hdf,β,hE,hA⟩:=hI
 have hnt:R.pm.nt=25:=by rw [hR];kernel_rfl
 obtain ⟨t,ds⟩:=a
 dsimp only at hsz hdf
 subst hdf
 obtain ⟨x0,x1,x2,x3,x4,x5,x6,x7,x8,x9,x10,x11,x12,x13,x14,x15,x16,x17,x18,x19,x20,x21,x22,x23,x24,rfl⟩:=arr25 (hsz.trans hnt)
 have h0:Tryz.f34.body=some _:=rfl
 rw [h0] at hc
 injection hc with hc
 injection hc with _ hc
 injection hc with _ hc
 injection hc with hc _
 subst hc
 have hB0:Below W.heap.size W (W.alloc (.map #[] 0)):=(Below.refl _ W).alloc (Nat.le_refl _) _
 have hh0:(W.alloc (.map #[] 0)).heap[W.heap.size]?=some (.map #[] 0):=heap_alloc_new _ _
 have hs0:(W.alloc (.map #[] 0)).heap.size=W.heap.size+1:=by simp
 obtain ⟨W1,i1,hB1,hh1,hs1⟩:=zb2 3 (.func (.func 58) #[] #[]) hB0 (Nat.le_refl _) hh0 (by kernel_rfl)
 obtain ⟨W2,i2,hB2,hh2,hs2⟩:=zb2 4 (.func (.func 59) #[] #[]) hB1 (Nat.le_refl _) hh1 (by kernel_rfl)
 obtain ⟨W3,i3,hB3,hh3,hs3⟩:=zb2 5 (.func (.func 60) #[] #[]) hB2 (Nat.le_refl _) hh2 (by kernel_rfl)
 obtain ⟨W4,i4,hB4,hh4,hs4⟩:=zb2 6 (.func (.func 61) #[] #[]) hB3 (Nat.le_refl _) hh3 (by kernel_rfl)
 obtain ⟨W5,i5,hB5,hh5,hs5⟩:=zb2 7 (.func (.func 62) #[] #[]) hB4 (Nat.le_refl _) hh4 (by kernel_rfl)
 have hmk:=run_makeMap (P:=Tryz.prog) 88
 go_wp2
 refine hQ _ _ ?_
 have hsz5:W5.heap.size=W.heap.size+1:=by omega
 have hB5:=hB5.alloc (Nat.le_of_lt (by omega:W.heap.size<W5.heap.size)) (.cells #[.map (some W.heap.size)] 88)
 have hsz6:(W5.alloc (.cells #[.map (some W.heap.size)] 88)).heap.size=W.heap.size+2:=by simp;omega
 refine znH (q:=W.heap.size+1) (r:=W.heap.size) (vs:=#[.map (some W.heap.size)]) hF hI0 ?_ rfl ?_ ?_ ?_ hB5 ?_ ?_ ?_ ?_ rfl rfl rfl
 ·rw [hnt];rfl
 ·intro s x hm
  simp only [List.mem_cons,List.not_mem_nil,or_false,Atom.sl.injEq,reduceCtorEq,false_or] at hm
  rcases hm with ⟨rfl,_⟩ | ⟨rfl,_⟩<;>rfl
 ·rw [hR];exact fun h=>by cases h
 ·intro A hm
  simp only [List.mem_cons,List.not_mem_nil,or_false] at hm
  rcases hm with rfl | rfl | rfl | rfl<;>rfl
 ·omega
 ·omega
 ·rw [show W.heap.size+1=W5.heap.size by omega];exact heap_alloc_new _ _
 ·intro β hD
  refine ⟨?_,trivial⟩
  show F.c 7 _ _ _
  rw [h7]
  exact ⟨_,rfl,hD,by rw [heap_alloc_old _ _ (by omega)];exact hh5⟩
theorem zkJ {w0:World} (e:Xp) (args:(List Int)) (v1:Int) (v2:Int) (v4:Bool) (e1:((args.length:Int))=v1) (e2:(z6 e v1)=v2) (e4:((v2 != (0:Int)))=v4) (s3:nodes e≤1000000) (h5:v4=true):Fun (KN w0) Tryz.prog 34 [.o (.g [pI e.op,pI e.n,pLs cE e.l]),.o (.c (pLs cI args))] (.t [.c (pV (.int .i64 0)),.c (pI v2)]):=
 zk (zr (F:=FL [pI e.op,pI e.n,pLs cE e.l,pLs cI args,pI v1,pI v2,pB v4] []) (C:=[(1000006,.op (.len [22] 3) [yh 3] [] (yh 4)),
  (1000007,.call ⟨19,[.o (.g [.h 0,.h 1,.h 2]),yh 4],[],yh 5,[]⟩),
  (1000010,.bin .neq 44 (yh 5) (LF (.k (.int .i64 0))) (yh 6)),
  (10006,.fb 6 true)]) (k:=⟨34,[.o (.g [.h 0,.h 1,.h 2]),yh 3],[],.t [.c (.k (.int .i64 0)),.c (.h 5)],[]⟩) 0 (zg ⟨za,za,(ze (zf rfl)),(ze zt),za,za,za,trivial⟩) ⟨zF (E:=3) (by kernel_rfl) (zc rfl) (zb (by rw [← e1];rfl)),
  zh (zbS e v1 v2 e2 s3),
  e_bin (zb rfl) zd (zb rfl) (r_cmp (congrArg some e4)),
  e_fbv h5,
  trivial⟩ mixed (by kernel_rfl))
theorem zkK {w0:World} (e:Xp) (args:(List Int)) (v1:Int) (v2:Int) (v4:Bool) (v9:Int) (e1:((args.length:Int))=v1) (e2:(z6 e v1)=v2) (e4:((v2 != (0:Int)))=v4) (e9:((evalX args e).getD 0)=v9) (s3:nodes e≤1000000) (h5:v4=false) (h6:(evalX args e).isSome=true) (s7:(evalX args e).isSome=true) (s8:Vx args.length e):Fun (KN w0) Tryz.prog 34 [.o (.g [pI e.op,pI e.n,pLs cE e.l]),.o (.c (pLs cI args))] (.t [.c (pI v9),.c (pV (.int .i64 0))]):=by
 have hF:Fine (KN w0) (FL [pI e.op,pI e.n,pLs cE e.l,pLs cI args,pI v1,pI v2,pB v4,pM,pI v9] []):=zg ⟨za,za,(ze (zf rfl)),(ze zt),za,za,za,zR,za,trivial⟩
 have hC:Sound (KN w0) Tryz.prog (FL [pI e.op,pI e.n,pLs cE e.l,pLs cI args,pI v1,pI v2,pB v4,pM,pI v9] []) [(1000006,.op (.len [22] 3) [yh 3] [] (yh 4)),
  (1000007,.call ⟨19,[.o (.g [.h 0,.h 1,.h 2]),yh 4],[],yh 5,[]⟩),
  (1000010,.bin .neq 44 (yh 5) (LF (.k (.int .i64 0))) (yh 6)),
  (10006,.fb 6 false),
  (1000026,.call ⟨31,[.o (.c (.q 65 [(20,0),(0,0),(23,0)]))],[.bx 1 22 [.h 3],.bx 20 89 [.q 63 [(1,0),(20,0),(18,0)]],.bx 18 88 [.h 7],.bx 0 32 [.h 0,.h 1,.h 2],.bx 23 3 [.k (.int .i64 0)]],.o (.c (.k (.int .i64 0))),[.bx 1 22 [.h 3],.bx 20 89 [.q 63 [(1,0),(20,0),(18,0)]],.bx 18 88 [.h 7],.bx 0 32 [.h 0,.h 1,.h 2],.bx 23 3 [.h 8]]⟩)]:=⟨zF (E:=3) (by kernel_rfl) (zc rfl) (zb (by rw [← e1];rfl)),
  zh (zbS e v1 v2 e2 s3),
  e_bin (zb rfl) zd (zb rfl) (r_cmp (congrArg some e4)),
  e_fbv h5,
  b_con (pan:=false) (zeA (caps:=[(1,0),(3,0),(4,0)]) (fun _ _=>zac (by kernel_rfl)) (zmV args e (0:Int) v9 e9 s7 s8) ⟨⟨ze zt,trivial⟩,⟨trivial,trivial⟩,⟨zR,trivial⟩,⟨za,za,ze (zf rfl),trivial⟩,⟨za,trivial⟩,trivial⟩ ⟨⟨ze zt,trivial⟩,⟨trivial,trivial⟩,⟨zR,trivial⟩,⟨za,za,ze (zf rfl),trivial⟩,⟨za,trivial⟩,trivial⟩),
  trivial⟩
 refine zk (F:=FL [pI e.op,pI e.n,pLs cE e.l,pLs cI args,pI v1,pI v2,pB v4,pM,pI v9] []) (as':=[.o (.g [.h 0,.h 1,.h 2]),yh 3]) (res':=.t [.c (.h 8),.c (.k (.int .i64 0))]) (zey (k:=⟨34,[.o (.g [.h 0,.h 1,.h 2]),yh 3],[],.t [.c (.h 8),.c (.k (.int .i64 0))],[]⟩) [] false hF Tryz.func34 rfl (by kernel_rfl) fun R hR=>⟨.r,[.sl 4 (yh 8),.sl 5 (.o (.c (.k (.int .i64 0))))],by kernel_rfl,?_⟩) rfl rfl rfl rfl
 have hR:R.pm=⟨ntOf Tryz.prog 34,[],[]⟩:=hR
 refine zbw (goes (x:=.n) (y:=.n) (Fb:=FL [pI e.op,pI e.n,pLs cE e.l,pLs cI args,pI v1,pI v2,pB v4,pM,pI v9] []) (stb:=[.sl 0 (.o (.g [.h 0,.h 1,.h 2])),.sl 1 (yh 3)]) (tl:=[.sl 2 (.o (.c (.p 0 0))),.sl 3 (.o (.c (.p 1 0))),.sl 4 (.o (.c (.k (.int .i64 0)))),.sl 5 (.o (.c (.k (.int .i64 0)))),.sl 0 (.o (.g [.h 0,.h 1,.h 2])),.sl 1 (yh 3),.bx 0 32 [.h 0,.h 1,.h 2],.bx 1 22 [.h 3]]) (H:=.no) (C:=([(1000006,.op (.len [22] 3) [yh 3] [] (yh 4)),
  (1000007,.call ⟨19,[.o (.g [.h 0,.h 1,.h 2]),yh 4],[],yh 5,[]⟩),
  (1000010,.bin .neq 44 (yh 5) (LF (.k (.int .i64 0))) (yh 6)),
  (10006,.fb 6 false),
  (1000026,.call ⟨31,[.o (.c (.q 65 [(20,0),(0,0),(23,0)]))],[.bx 1 22 [.h 3],.bx 20 89 [.q 63 [(1,0),(20,0),(18,0)]],.bx 18 88 [.h 7],.bx 0 32 [.h 0,.h 1,.h 2],.bx 23 3 [.k (.int .i64 0)]],.o (.c (.k (.int .i64 0))),[.bx 1 22 [.h 3],.bx 20 89 [.q 63 [(1,0),(20,0),(18,0)]],.bx 18 88 [.h 7],.bx 0 32 [.h 0,.h 1,.h 2],.bx 23 3 [.h 8]]⟩)]:List (Nat×Ent))) 0 (fun _ _ _ _ h=>h) hF hC mixed hR trivial (fun _ _ _ hs=>by cases hs) (by kernel_rfl) rfl (fun _ _ _ _ h=>h)) (zbw (goes (x:=.n) (y:=.n) (Fb:=FL [pI e.op,pI e.n,pLs cE e.l,pLs cI args,pI v1,pI v2,pB v4,pM,pI v9] []) (stb:=[.sl 2 (.o (.c (.p 0 0))),.sl 3 (.o (.c (.p 1 0))),.sl 4 (.o (.c (.k (.int .i64 0)))),.sl 5 (.o (.c (.k (.int .i64 0)))),.sl 0 (.o (.g [.h 0,.h 1,.h 2])),.sl 1 (yh 3),.bx 0 32 [.h 0,.h 1,.h 2],.bx 1 22 [.h 3]]) (tl:=[.sl 2 (.o (.c (.p 0 0))),.sl 3 (.o (.c (.p 1 0))),.bx 0 32 [.h 0,.h 1,.h 2],.bx 1 22 [.h 3]]) (H:=.no) (C:=([(1000006,.op (.len [22] 3) [yh 3] [] (yh 4)),
  (1000007,.call ⟨19,[.o (.g [.h 0,.h 1,.h 2]),yh 4],[],yh 5,[]⟩),
  (1000010,.bin .neq 44 (yh 5) (LF (.k (.int .i64 0))) (yh 6)),
  (10006,.fb 6 false),
  (1000026,.call ⟨31,[.o (.c (.q 65 [(20,0),(0,0),(23,0)]))],[.bx 1 22 [.h 3],.bx 20 89 [.q 63 [(1,0),(20,0),(18,0)]],.bx 18 88 [.h 7],.bx 0 32 [.h 0,.h 1,.h 2],.bx 23 3 [.k (.int .i64 0)]],.o (.c (.k (.int .i64 0))),[.bx 1 22 [.h 3],.bx 20 89 [.q 63 [(1,0),(20,0),(18,0)]],.bx 18 88 [.h 7],.bx 0 32 [.h 0,.h 1,.h 2],.bx 23 3 [.h 8]]⟩)]:List (Nat×Ent))) 4 (fun _ _ _ _ h=>h) hF hC mixed hR trivial (fun _ _ _ hs=>by cases hs) (by kernel_rfl) rfl (fun _ _ _ _ h=>h)) (zbw (zfo hF rfl R hR (hc:=rfl)) (goes (x:=.r) (y:=.r) (Fb:=FL [pI e.op,pI e.n,pLs cE e.l,pLs cI args,pI v1,pI v2,pB v4,pM,pI v9] []) (stb:=(.sl 7 (.o (.c (.p 18 0)))::.bx 18 88 [.h 7]::[.sl 2 (.o (.c (.p 0 0))),.sl 3 (.o (.c (.p 1 0))),.bx 0 32 [.h 0,.h 1,.h 2],.bx 1 22 [.h 3]])) (tl:=[.sl 4 (yh 8),.sl 5 (.o (.c (.k (.int .i64 0))))]) (H:=.no) (C:=([(1000006,.op (.len [22] 3) [yh 3] [] (yh 4)),
  (1000007,.call ⟨19,[.o (.g [.h 0,.h 1,.h 2]),yh 4],[],yh 5,[]⟩),
  (1000010,.bin .neq 44 (yh 5) (LF (.k (.int .i64 0))) (yh 6)),
  (10006,.fb 6 false),
  (1000026,.call ⟨31,[.o (.c (.q 65 [(20,0),(0,0),(23,0)]))],[.bx 1 22 [.h 3],.bx 20 89 [.q 63 [(1,0),(20,0),(18,0)]],.bx 18 88 [.h 7],.bx 0 32 [.h 0,.h 1,.h 2],.bx 23 3 [.k (.int .i64 0)]],.o (.c (.k (.int .i64 0))),[.bx 1 22 [.h 3],.bx 20 89 [.q 63 [(1,0),(20,0),(18,0)]],.bx 18 88 [.h 7],.bx 0 32 [.h 0,.h 1,.h 2],.bx 23 3 [.h 8]]⟩)]:List (Nat×Ent))) 20 (fun _ _ _ _ h=>h) hF hC mixed hR trivial (fun _ _ _ hs=>by cases hs) (by kernel_rfl) rfl (fun _ _ _ _ h=>h))))
theorem zkL {w0:World} (e:Xp) (args:(List Int)) (v1:Int) (v2:Int) (v4:Bool) (v9:Int) (e1:((args.length:Int))=v1) (e2:(z6 e v1)=v2) (e4:((v2 != (0:Int)))=v4) (e9:((3:Int))=v9) (s3:nodes e≤1000000) (h5:v4=false) (h6:(evalX args e).isSome=false) (s7:(evalX args e).isSome=false) (s8:Vx args.length e):Fun (KN w0) Tryz.prog 34 [.o (.g [pI e.op,pI e.n,pLs cE e.l]),.o (.c (pLs cI args))] (.t [.c (pV (.int .i64 0)),.c (pI v9)]):=by
 have hF:Fine (KN w0) (FL [pI e.op,pI e.n,pLs cE e.l,pLs cI args,pI v1,pI v2,pB v4,pM,pI v9] []):=zg ⟨za,za,(ze (zf rfl)),(ze zt),za,za,za,zR,za,trivial⟩
 have hC:Sound (KN w0) Tryz.prog (FL [pI e.op,pI e.n,pLs cE e.l,pLs cI args,pI v1,pI v2,pB v4,pM,pI v9] []) [(1000006,.op (.len [22] 3) [yh 3] [] (yh 4)),
  (1000007,.call ⟨19,[.o (.g [.h 0,.h 1,.h 2]),yh 4],[],yh 5,[]⟩),
  (1000010,.bin .neq 44 (yh 5) (LF (.k (.int .i64 0))) (yh 6)),
  (10006,.fb 6 false),
  (1000026,.call ⟨31,[.o (.c (.q 65 [(20,0),(0,0),(23,0)]))],[.bx 1 22 [.h 3],.bx 20 89 [.q 63 [(1,0),(20,0),(18,0)]],.bx 18 88 [.h 7],.bx 0 32 [.h 0,.h 1,.h 2],.bx 23 3 [.k (.int .i64 0)]],yh 8,[.bx 1 22 [.h 3],.bx 20 89 [.q 63 [(1,0),(20,0),(18,0)]],.bx 18 88 [.h 7],.bx 0 32 [.h 0,.h 1,.h 2],.bx 23 3 [.k (.int .i64 0)]]⟩)]:=⟨zF (E:=3) (by kernel_rfl) (zc rfl) (zb (by rw [← e1];rfl)),
  zh (zbS e v1 v2 e2 s3),
  e_bin (zb rfl) zd (zb rfl) (r_cmp (congrArg some e4)),
  e_fbv h5,
  b_con (pan:=false) (zhv (caps:=[(1,0),(3,0),(4,0)]) (fun _ _=>zac (by kernel_rfl)) v9 (zlv args e (0:Int) v9 e9 (by revert s7;cases evalX args e with | none=>exact fun _=>rfl | some _=>exact fun h=>by cases h) s8) ⟨⟨ze zt,trivial⟩,⟨trivial,trivial⟩,⟨zR,trivial⟩,⟨za,za,ze (zf rfl),trivial⟩,⟨za,trivial⟩,trivial⟩ ⟨⟨ze zt,trivial⟩,⟨trivial,trivial⟩,⟨zR,trivial⟩,⟨za,za,ze (zf rfl),trivial⟩,⟨za,trivial⟩,trivial⟩),
  trivial⟩
 refine zk (F:=FL [pI e.op,pI e.n,pLs cE e.l,pLs cI args,pI v1,pI v2,pB v4,pM,pI v9] []) (as':=[.o (.g [.h 0,.h 1,.h 2]),yh 3]) (res':=.t [.c (.k (.int .i64 0)),.c (.h 8)]) (zey (k:=⟨34,[.o (.g [.h 0,.h 1,.h 2]),yh 3],[],.t [.c (.k (.int .i64 0)),.c (.h 8)],[]⟩) [] false hF Tryz.func34 rfl (by kernel_rfl) fun R hR=>⟨.r,[.sl 4 (.o (.c (.k (.int .i64 0)))),.sl 5 (yh 8)],by kernel_rfl,?_⟩) rfl rfl rfl rfl
 have hR:R.pm=⟨ntOf Tryz.prog 34,[],[]⟩:=hR
 refine zbw (goes (x:=.n) (y:=.n) (Fb:=FL [pI e.op,pI e.n,pLs cE e.l,pLs cI args,pI v1,pI v2,pB v4,pM,pI v9] []) (stb:=[.sl 0 (.o (.g [.h 0,.h 1,.h 2])),.sl 1 (yh 3)]) (tl:=[.sl 2 (.o (.c (.p 0 0))),.sl 3 (.o (.c (.p 1 0))),.sl 4 (.o (.c (.k (.int .i64 0)))),.sl 5 (.o (.c (.k (.int .i64 0)))),.sl 0 (.o (.g [.h 0,.h 1,.h 2])),.sl 1 (yh 3),.bx 0 32 [.h 0,.h 1,.h 2],.bx 1 22 [.h 3]]) (H:=.no) (C:=([(1000006,.op (.len [22] 3) [yh 3] [] (yh 4)),
  (1000007,.call ⟨19,[.o (.g [.h 0,.h 1,.h 2]),yh 4],[],yh 5,[]⟩),
  (1000010,.bin .neq 44 (yh 5) (LF (.k (.int .i64 0))) (yh 6)),
  (10006,.fb 6 false),
  (1000026,.call ⟨31,[.o (.c (.q 65 [(20,0),(0,0),(23,0)]))],[.bx 1 22 [.h 3],.bx 20 89 [.q 63 [(1,0),(20,0),(18,0)]],.bx 18 88 [.h 7],.bx 0 32 [.h 0,.h 1,.h 2],.bx 23 3 [.k (.int .i64 0)]],yh 8,[.bx 1 22 [.h 3],.bx 20 89 [.q 63 [(1,0),(20,0),(18,0)]],.bx 18 88 [.h 7],.bx 0 32 [.h 0,.h 1,.h 2],.bx 23 3 [.k (.int .i64 0)]]⟩)]:List (Nat×Ent))) 0 (fun _ _ _ _ h=>h) hF hC mixed hR trivial (fun _ _ _ hs=>by cases hs) (by kernel_rfl) rfl (fun _ _ _ _ h=>h)) (zbw (goes (x:=.n) (y:=.n) (Fb:=FL [pI e.op,pI e.n,pLs cE e.l,pLs cI args,pI v1,pI v2,pB v4,pM,pI v9] []) (stb:=[.sl 2 (.o (.c (.p 0 0))),.sl 3 (.o (.c (.p 1 0))),.sl 4 (.o (.c (.k (.int .i64 0)))),.sl 5 (.o (.c (.k (.int .i64 0)))),.sl 0 (.o (.g [.h 0,.h 1,.h 2])),.sl 1 (yh 3),.bx 0 32 [.h 0,.h 1,.h 2],.bx 1 22 [.h 3]]) (tl:=[.sl 2 (.o (.c (.p 0 0))),.sl 3 (.o (.c (.p 1 0))),.bx 0 32 [.h 0,.h 1,.h 2],.bx 1 22 [.h 3]]) (H:=.no) (C:=([(1000006,.op (.len [22] 3) [yh 3] [] (yh 4)),
  (1000007,.call ⟨19,[.o (.g [.h 0,.h 1,.h 2]),yh 4],[],yh 5,[]⟩),
  (1000010,.bin .neq 44 (yh 5) (LF (.k (.int .i64 0))) (yh 6)),
  (10006,.fb 6 false),
  (1000026,.call ⟨31,[.o (.c (.q 65 [(20,0),(0,0),(23,0)]))],[.bx 1 22 [.h 3],.bx 20 89 [.q 63 [(1,0),(20,0),(18,0)]],.bx 18 88 [.h 7],.bx 0 32 [.h 0,.h 1,.h 2],.bx 23 3 [.k (.int .i64 0)]],yh 8,[.bx 1 22 [.h 3],.bx 20 89 [.q 63 [(1,0),(20,0),(18,0)]],.bx 18 88 [.h 7],.bx 0 32 [.h 0,.h 1,.h 2],.bx 23 3 [.k (.int .i64 0)]]⟩)]:List (Nat×Ent))) 4 (fun _ _ _ _ h=>h) hF hC mixed hR trivial (fun _ _ _ hs=>by cases hs) (by kernel_rfl) rfl (fun _ _ _ _ h=>h)) (zbw (zfo hF rfl R hR (hc:=rfl)) (goes (x:=.r) (y:=.r) (Fb:=FL [pI e.op,pI e.n,pLs cE e.l,pLs cI args,pI v1,pI v2,pB v4,pM,pI v9] []) (stb:=(.sl 7 (.o (.c (.p 18 0)))::.bx 18 88 [.h 7]::[.sl 2 (.o (.c (.p 0 0))),.sl 3 (.o (.c (.p 1 0))),.bx 0 32 [.h 0,.h 1,.h 2],.bx 1 22 [.h 3]])) (tl:=[.sl 4 (.o (.c (.k (.int .i64 0)))),.sl 5 (yh 8)]) (H:=.no) (C:=([(1000006,.op (.len [22] 3) [yh 3] [] (yh 4)),
  (1000007,.call ⟨19,[.o (.g [.h 0,.h 1,.h 2]),yh 4],[],yh 5,[]⟩),
  (1000010,.bin .neq 44 (yh 5) (LF (.k (.int .i64 0))) (yh 6)),
  (10006,.fb 6 false),
  (1000026,.call ⟨31,[.o (.c (.q 65 [(20,0),(0,0),(23,0)]))],[.bx 1 22 [.h 3],.bx 20 89 [.q 63 [(1,0),(20,0),(18,0)]],.bx 18 88 [.h 7],.bx 0 32 [.h 0,.h 1,.h 2],.bx 23 3 [.k (.int .i64 0)]],yh 8,[.bx 1 22 [.h 3],.bx 20 89 [.q 63 [(1,0),(20,0),(18,0)]],.bx 18 88 [.h 7],.bx 0 32 [.h 0,.h 1,.h 2],.bx 23 3 [.k (.int .i64 0)]]⟩)]:List (Nat×Ent))) 20 (fun _ _ _ _ h=>h) hF hC mixed hR trivial (fun _ _ _ hs=>by cases hs) (by kernel_rfl) rfl (fun _ _ _ _ h=>h))))
theorem zh0 {w0:World} (e:Xp) (args:List Int) (r k:Int) (hr:(evalE e args).1=r) (hk:(evalE e args).2=k) (hn:nodes e≤1000000):Fun (KN w0) Tryz.prog 34 [.o (.g [pI e.op,pI e.n,pLs cE e.l]),.o (.c (pLs cI args))] (.t [.c (pI r),.c (pI k)]):=by
 obtain ⟨v1,e1⟩:∃v,((args.length:Int))=v:=⟨_,rfl⟩
 obtain ⟨v2,e2⟩:∃v,(z6 e v1)=v:=⟨_,rfl⟩
 have s3:nodes e≤1000000:=by exact hn
 obtain ⟨v4,e4⟩:∃v,((v2 != (0:Int)))=v:=⟨_,rfl⟩
 cases h5:v4 with
 | true =>
  refine Fun.imp (zkJ e args v1 v2 v4 e1 e2 e4 s3 h5) (fun _ _ _ h=>h) (fun v W D h=>?_)
  have r0:r=(0:Int):=by
   (have dh5:=bne_iff_ne.1 (e4.trans h5);unfold evalE at hr hk;simp_all)
  have r1:k=v2:=by
   (have dh5:=bne_iff_ne.1 (e4.trans h5);unfold evalE at hr hk;simp_all)
  rw [r0,r1];exact h
 | false =>
  cases h6:(evalX args e).isSome with
  | true =>
   have s7:(evalX args e).isSome=true:=by assumption
   have s8:Vx args.length e:=by (rw [← e1] at e2;exact (qS.1 (e2.trans (by simp_all))).2)
   obtain ⟨v9,e9⟩:∃v,((evalX args e).getD 0)=v:=⟨_,rfl⟩
   refine Fun.imp (zkK e args v1 v2 v4 v9 e1 e2 e4 e9 s3 h5 h6 s7 s8) (fun _ _ _ h=>h) (fun v W D h=>?_)
   have r0:r=v9:=by
    (have dh5:=bne_eq_false_iff_eq.1 (e4.trans h5);unfold evalE at hr hk;rw [if_neg (by rw [e1,e2];simp_all)] at hr hk;rw [zD h6 e9] at hr hk;simp_all)
   have r1:k=(0:Int):=by
    (have dh5:=bne_eq_false_iff_eq.1 (e4.trans h5);unfold evalE at hr hk;rw [if_neg (by rw [e1,e2];simp_all)] at hr hk;rw [zD h6 e9] at hr hk;simp_all)
   rw [r0,r1];exact h
  | false =>
   have s7:(evalX args e).isSome=false:=by assumption
   have s8:Vx args.length e:=by (rw [← e1] at e2;exact (qS.1 (e2.trans (by simp_all))).2)
   obtain ⟨v9,e9⟩:∃v,((3:Int))=v:=⟨_,rfl⟩
   refine Fun.imp (zkL e args v1 v2 v4 v9 e1 e2 e4 e9 s3 h5 h6 s7 s8) (fun _ _ _ h=>h) (fun v W D h=>?_)
   have r0:r=(0:Int):=by
    (have dh5:=bne_eq_false_iff_eq.1 (e4.trans h5);unfold evalE at hr hk;rw [if_neg (by rw [e1,e2];simp_all)] at hr hk;rw [show evalX args e=none from (by revert h6;cases evalX args e with | none=>exact fun _=>rfl | some _=>exact fun h=>by cases h)] at hr hk;simp_all)
   have r1:k=v9:=by
    (have dh5:=bne_eq_false_iff_eq.1 (e4.trans h5);unfold evalE at hr hk;rw [if_neg (by rw [e1,e2];simp_all)] at hr hk;rw [show evalX args e=none from (by revert h6;cases evalX args e with | none=>exact fun _=>rfl | some _=>exact fun h=>by cases h)] at hr hk;simp_all)
   rw [r0,r1];exact h
end Go.Proofs.YtdkofaajcpcjkaaGreatDoor
