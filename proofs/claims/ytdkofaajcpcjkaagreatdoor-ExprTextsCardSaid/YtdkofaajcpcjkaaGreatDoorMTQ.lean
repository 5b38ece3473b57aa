/-
  Merged: ExN, ExG, ExV, ExPt, ExGs, ExSep, ExCp.
-/
import Derived.Test.YtdkofaajcpcjkaaGreatDoorMTN
import Derived.Test.YtdkofaajcpcjkaaGreatDoorMTE
import Derived.Lib.ItoaLen
import Derived.Test.YtdkofaajcpcjkaaGreatDoorMTJ
import Derived.Test.YtdkofaajcpcjkaaGreatDoorMTO
import Derived.Test.YtdkofaajcpcjkaaGreatDoorMTP
set_option linter.unusedSimpArgs false
set_option linter.unusedVariables false
set_option maxRecDepth 100000
set_option maxHeartbeats 4000000
namespace Go.Proofs.YtdkofaajcpcjkaaGreatDoor
open Go.RowKit
theorem zoN {x:Int} (h:0≤x∧x<256):((bI x).toNat:Int)=x:=by
 unfold bI
 rw [UInt8.toNat_ofNat',Nat.mod_eq_of_lt (by omega)];omega
def B8:List Int→Prop
 | []=>True
 | x::r=>(0≤x∧x<256)∧B8 r
theorem zjl:∀{l:List Int},B8 l→∀vs W D,okl (l.map fun x=>pV (.int .u8 x)) vs W D→okl ((l.map bI).flatMap cB) vs W D
 | [],_,_,_,_,h=>h
 | x::r,hb,v::vs,W,D,h=>by
  show okl ((bI x::r.map bI).flatMap cB) (v::vs) W D
  rw [List.flatMap_cons]
  refine ⟨?_,zjl hb.2 vs W D h.2⟩
  show pV (.int .u8 ((bI x).toNat:Int)) v W D
  rw [zoN hb.1];exact h.1
 | _::_,_,[],_,_,h=>h.elim
def textX (e:Xp):List UInt8:=if z6 e 4=0 then zy e else []
def textO (e:Xp):Bool:=z6 e 4 == 0
theorem zkO {w0:World} (e:Xp) (hL:LibT w0) (v1:Int) (v3:Bool) (e1:(z6 e (4:Int))=v1) (e3:((v1 != (0:Int)))=v3) (s2:nodes e≤1000000) (h4:v3=true):Fun (KN w0) Tryz.prog 6 [.o (.g [pI e.op,pI e.n,pLs cE e.l])] (.t [.c (pV (.string ⟨#[]⟩)),.c (pV (.bool false))]):=
 zk (zr (F:=FL [pI e.op,pI e.n,pLs cE e.l,pI v1,pB v3] []) (C:=[(1000004,.call ⟨19,[.o (.g [.h 0,.h 1,.h 2]),.o (.c (.k (.int .i64 4)))],[],yh 3,[]⟩),
  (1000005,.bin .neq 44 (yh 3) (LF (.k (.int .i64 0))) (yh 4)),
  (10004,.fb 4 true)]) (k:=⟨6,[.o (.g [.h 0,.h 1,.h 2])],[],.t [.c (.k (.string ⟨#[]⟩)),.c (.k (.bool false))],[]⟩) 0 (zg ⟨za,za,(ze (zf rfl)),za,za,trivial⟩) ⟨zh (zbS e (4:Int) v1 e1 s2),
  e_bin (zb rfl) zd (zb rfl) (r_cmp (congrArg some e3)),
  e_fbv h4,
  trivial⟩ mixed (by kernel_rfl))
theorem zkP {w0:World} (e:Xp) (hL:LibT w0) (v1:Int) (v3:Bool) (v5:(List UInt8)) (e1:(z6 e (4:Int))=v1) (e3:((v1 != (0:Int)))=v3) (e5:(zy e)=v5) (s2:nodes e≤1000000) (h4:v3=false) (s6:Vx 4 e) (s7:nodes e≤1000000):Fun (KN w0) Tryz.prog 6 [.o (.g [pI e.op,pI e.n,pLs cE e.l])] (.t [.c (pS v5),.c (pV (.bool true))]):=
 zk (zr (F:=FL [pI e.op,pI e.n,pLs cE e.l,pI v1,pB v3,pS v5] []) (C:=[(1000004,.call ⟨19,[.o (.g [.h 0,.h 1,.h 2]),.o (.c (.k (.int .i64 4)))],[],yh 3,[]⟩),
  (1000005,.bin .neq 44 (yh 3) (LF (.k (.int .i64 0))) (yh 4)),
  (10004,.fb 4 false),
  (1000007,.call ⟨20,[.o (.g [.h 0,.h 1,.h 2])],[],yh 5,[]⟩)]) (k:=⟨6,[.o (.g [.h 0,.h 1,.h 2])],[],.t [.c (.h 5),.c (.k (.bool true))],[]⟩) 0 (zg ⟨za,za,(ze (zf rfl)),za,za,za,trivial⟩) ⟨zh (zbS e (4:Int) v1 e1 s2),
  e_bin (zb rfl) zd (zb rfl) (r_cmp (congrArg some e3)),
  e_fbv h4,
  zh (zoL hL e v5 e5 s6 s7),
  trivial⟩ mixed (by kernel_rfl))
theorem zkN {w0:World} (hL:LibT w0) (e:Xp) (r:List UInt8) (b:Bool) (hr:textX e=r) (hb:textO e=b) (hn:nodes e≤1000000):Fun (KN w0) Tryz.prog 6 [.o (.g [pI e.op,pI e.n,pLs cE e.l])] (.t [.c (pS r),.c (pB b)]):=by
 obtain ⟨v1,e1⟩:∃v,(z6 e (4:Int))=v:=⟨_,rfl⟩
 have s2:nodes e≤1000000:=by exact hn
 obtain ⟨v3,e3⟩:∃v,((v1 != (0:Int)))=v:=⟨_,rfl⟩
 cases h4:v3 with
 | true =>
  refine Fun.imp (zkO e hL v1 v3 e1 e3 s2 h4) (fun _ _ _ h=>h) (fun v W D h=>?_)
  have r0:r=[]:=by
   (have dh4:=bne_iff_ne.1 (e3.trans h4);unfold textX at hr;unfold textO at hb;rw [e1] at hr hb;first | (rw [← hr,if_neg dh4];done) | (rw [← hb];exact beq_eq_false_iff_ne.2 dh4) | (rw [← hr,if_pos dh4];assumption) | (rw [← hb,dh4];rfl))
  have r1:b=false:=by
   (have dh4:=bne_iff_ne.1 (e3.trans h4);unfold textX at hr;unfold textO at hb;rw [e1] at hr hb;first | (rw [← hr,if_neg dh4];done) | (rw [← hb];exact beq_eq_false_iff_ne.2 dh4) | (rw [← hr,if_pos dh4];assumption) | (rw [← hb,dh4];rfl))
  rw [r0,r1];exact h
 | false =>
  obtain ⟨v5,e5⟩:∃v,(zy e)=v:=⟨_,rfl⟩
  have s6:Vx 4 e:=by (have dh4:=bne_eq_false_iff_eq.1 (e3.trans h4);exact (qS.1 (e1.trans (by assumption))).2)
  have s7:nodes e≤1000000:=by exact hn
  refine Fun.imp (zkP e hL v1 v3 v5 e1 e3 e5 s2 h4 s6 s7) (fun _ _ _ h=>h) (fun v W D h=>?_)
  have r0:r=v5:=by
   (have dh4:=bne_eq_false_iff_eq.1 (e3.trans h4);unfold textX at hr;unfold textO at hb;rw [e1] at hr hb;first | (rw [← hr,if_neg dh4];done) | (rw [← hb];exact beq_eq_false_iff_ne.2 dh4) | (rw [← hr,if_pos dh4];assumption) | (rw [← hb,dh4];rfl))
  have r1:b=true:=by
   (have dh4:=bne_eq_false_iff_eq.1 (e3.trans h4);unfold textX at hr;unfold textO at hb;rw [e1] at hr hb;first | (rw [← hr,if_neg dh4];done) | (rw [← hb];exact beq_eq_false_iff_ne.2 dh4) | (rw [← hr,if_pos dh4];assumption) | (rw [← hb,dh4];rfl))
  rw [r0,r1];exact h
theorem zeM (n:Nat):Lib.itoa (n:Int)=Lib.decDigits n:=by unfold Lib.itoa;rw [if_neg (by omega)];simp
theorem zV {n:Int} (h0:0≤n) (h:n<10):Lib.itoa n=[bI (48+n)]:=by
 obtain ⟨k,rfl⟩:∃k:Nat,n=k:=⟨n.toNat,by omega⟩
 rw [zeM]
 by_cases hk:k=0
 ·subst hk;rw [zcV];rfl
 ·rw [zdT k hk,zda hk,show k / 10=0 by omega,zdb,show k%10=k by omega]
  first | done | rfl
theorem zaz {n:Int} (h:10≤n):Lib.itoa n=Lib.itoa (n.tdiv 10)++Lib.itoa (n.tmod 10):=by
 obtain ⟨k,rfl⟩:∃k:Nat,n=k:=⟨n.toNat,by omega⟩
 have e1:(k:Int).tdiv 10=((k / 10:Nat):Int):=rfl
 have e2:(k:Int).tmod 10=((k%10:Nat):Int):=rfl
 rw [e1,e2,zeM,zeM,zdT k (by omega),zda (by omega),zdT (k / 10) (by omega),zV (by omega) (by omega)]
 congr 1
theorem zdZ {n:Int} (h:n<0):Lib.itoa n=[45]++Lib.itoa (-n):=by
 unfold Lib.itoa
 rw [if_pos h,if_neg (by omega)]
 have:n.natAbs=(-n).toNat:=by omega
 simp [this]
def zbf (w0:World) (N:Int):Prop:=∀(n:Int) (v:List UInt8),Lib.itoa n=v→0≤n→n≤N→Fun (KN w0) Tryz.prog 46 [.o (.c (pI n))] (.o (.c (pS v)))
theorem zmi {w0:World} (n:Int) (N:Int) (IH:zbf w0 N) (v1:Bool) (v3:Bool) (v5:Int) (v6:(List UInt8)) (v9:(List UInt8)) (e1:(decide (n<(0:Int)))=v1) (e3:(decide (n > (-4611686018427387904:Int)))=v3) (e5:(IntKind.i64.wrap (0 - n))=v5) (e6:(Lib.itoa v5)=v6) (e9:([45]++v6)=v9) (h2:v1=true) (h4:v3=true) (s7:0≤v5) (s8:v5≤N) (s10:((([45]:List UInt8).length+(v6:List UInt8).length:Nat):Int)≤9223372036854775807):Fun (KN w0) Tryz.prog 46 [.o (.c (pI n))] (.o (.c (pS v9))):=
 zk (zr (F:=FL [pI n,pB v1,pB v3,pI v5,pS v6,pS v9] []) (C:=[(1000002,.bin .lss 3 (yh 0) (LF (.k (.int .i64 0))) (yh 1)),
  (10001,.fb 1 true),
  (1000005,.bin .gtr 3 (yh 0) (LF (.k (.int .i64 (-4611686018427387904)))) (yh 2)),
  (10002,.fb 2 true),
  (1000008,.un .neg (yh 0) (yh 3)),
  (1000009,.call ⟨46,[yh 3],[],yh 4,[]⟩),
  (1000010,.bin .add 9 (LF (.k (.string ⟨#[45]⟩))) (yh 4) (yh 5))]) (k:=⟨46,[yh 0],[],yh 5,[]⟩) 0 (zg ⟨za,za,za,za,za,za,trivial⟩) ⟨e_bin (zb rfl) zd (zb rfl) (r_cmp (congrArg some e1)),
  e_fbv h2,
  e_bin (zb rfl) zd (zb rfl) (r_cmp (congrArg some e3)),
  e_fbv h4,
  e_un (zb rfl) (zb rfl) (fun W=>by rw [← e5];exact r_neg W),
  zh (IH v5 v6 e6 s7 s8),
  e_bin zd (zb rfl) (zb rfl) (fun W X Y=>by rw [← e9];exact r_cat s10 W X Y),
  trivial⟩ mixed (by kernel_rfl))
theorem zh2 {w0:World} (n:Int) (N:Int) (IH:zbf w0 N) (v1:Bool) (v3:Bool) (v5:Bool) (v7:Int) (v8:Int) (v10:(List UInt8)) (e1:(decide (n<(0:Int)))=v1) (e3:(decide (n ≥ (0:Int)))=v3) (e5:(decide (n<(10:Int)))=v5) (e7:(IntKind.i64.wrap ((48:Int)+n))=v7) (e8:(IntKind.u8.wrap v7)=v8) (e10:([bI v8])=v10) (h2:v1=false) (h4:v3=true) (h6:v5=true) (s9:0≤v8∧v8<256):Fun (KN w0) Tryz.prog 46 [.o (.c (pI n))] (.o (.c (pS v10))):=
 zk (zr (F:=FL [pI n,pB v1,pB v3,pB v5,pI v7,pV (.int .u8 v8),pS v10] []) (C:=[(1000002,.bin .lss 3 (yh 0) (LF (.k (.int .i64 0))) (yh 1)),
  (10001,.fb 1 false),
  (1000008,.bin .geq 3 (yh 0) (LF (.k (.int .i64 0))) (yh 2)),
  (10002,.fb 2 true),
  (1000011,.bin .lss 3 (yh 0) (LF (.k (.int .i64 10))) (yh 3)),
  (10003,.fb 3 true),
  (1000014,.bin .add 3 (LF (.k (.int .i64 48))) (yh 0) (yh 4)),
  (1000015,.op (.cv 3 5) [yh 4] [] (yh 5)),
  (1000017,.op (.cv 35 9) [LF (.s 16 0 1 1)] [.bx 16 5 [.h 5]] (yh 6))]) (k:=⟨46,[yh 0],[],yh 6,[]⟩) 0 (zg ⟨za,za,za,za,za,za,za,trivial⟩) ⟨e_bin (zb rfl) zd (zb rfl) (r_cmp (congrArg some e1)),
  e_fbv h2,
  e_bin (zb rfl) zd (zb rfl) (r_cmp (congrArg some e3)),
  e_fbv h4,
  e_bin (zb rfl) zd (zb rfl) (r_cmp (congrArg some e5)),
  e_fbv h6,
  e_bin zd (zb rfl) (zb rfl) (r_ar (congrArg some e7)),
  e_op1 (zb rfl) (zb rfl) (fun W=>by rw [← e8];exact r_cvi (by kernel_rfl) (by kernel_rfl) W),
  zm7 (E:=5) (ps:=[pV (.int .u8 v8)]) (l:=[bI v8]) (by kernel_rfl) (by kernel_rfl) (by kernel_rfl) rfl (zjl (l:=[v8]) ⟨s9,trivial⟩) rfl rfl (by rw [e10];exact zb rfl),
  trivial⟩ mixed (by kernel_rfl))
theorem zmj {w0:World} (n:Int) (N:Int) (IH:zbf w0 N) (v1:Bool) (v3:Bool) (v5:Bool) (v7:Bool) (v9:Int) (v10:(List UInt8)) (v13:Int) (v14:(List UInt8)) (v17:(List UInt8)) (e1:(decide (n<(0:Int)))=v1) (e3:(decide (n ≥ (0:Int)))=v3) (e5:(decide (n<(10:Int)))=v5) (e7:(decide (n<(0:Int)))=v7) (e9:(IntKind.i64.wrap ((n:Int).tdiv (10:Int)))=v9) (e10:(Lib.itoa v9)=v10) (e13:((n:Int).tmod (10:Int))=v13) (e14:(Lib.itoa v13)=v14) (e17:(v10++v14)=v17) (h2:v1=false) (h4:v3=true) (h6:v5=false) (h8:v7=false) (s11:0≤v9) (s12:v9≤N) (s15:0≤v13) (s16:v13≤N) (s18:(((v10:List UInt8).length+(v14:List UInt8).length:Nat):Int)≤9223372036854775807):Fun (KN w0) Tryz.prog 46 [.o (.c (pI n))] (.o (.c (pS v17))):=
 zk (zr (F:=FL [pI n,pB v1,pB v3,pB v5,pB v7,pI v9,pS v10,pI v13,pS v14,pS v17] []) (C:=[(1000002,.bin .lss 3 (yh 0) (LF (.k (.int .i64 0))) (yh 1)),
  (10001,.fb 1 false),
  (1000008,.bin .geq 3 (yh 0) (LF (.k (.int .i64 0))) (yh 2)),
  (10002,.fb 2 true),
  (1000011,.bin .lss 3 (yh 0) (LF (.k (.int .i64 10))) (yh 3)),
  (10003,.fb 3 false),
  (1000014,.bin .lss 3 (yh 0) (LF (.k (.int .i64 0))) (yh 4)),
  (10004,.fb 4 false),
  (1000016,.bin .quo 3 (yh 0) (LF (.k (.int .i64 10))) (yh 5)),
  (1000017,.call ⟨46,[yh 5],[],yh 6,[]⟩),
  (1000019,.bin .rem 3 (yh 0) (LF (.k (.int .i64 10))) (yh 7)),
  (1000020,.call ⟨46,[yh 7],[],yh 8,[]⟩),
  (1000021,.bin .add 9 (yh 6) (yh 8) (yh 9))]) (k:=⟨46,[yh 0],[],yh 9,[]⟩) 0 (zg ⟨za,za,za,za,za,za,za,za,za,za,trivial⟩) ⟨e_bin (zb rfl) zd (zb rfl) (r_cmp (congrArg some e1)),
  e_fbv h2,
  e_bin (zb rfl) zd (zb rfl) (r_cmp (congrArg some e3)),
  e_fbv h4,
  e_bin (zb rfl) zd (zb rfl) (r_cmp (congrArg some e5)),
  e_fbv h6,
  e_bin (zb rfl) zd (zb rfl) (r_cmp (congrArg some e7)),
  e_fbv h8,
  e_bin (zb rfl) zd (zb rfl) (r_ar ((zji (by decide)).trans (congrArg some e9))),
  zh (IH v9 v10 e10 s11 s12),
  e_bin (zb rfl) zd (zb rfl) (r_ar ((zaH (by decide)).trans (congrArg some e13))),
  zh (IH v13 v14 e14 s15 s16),
  e_bin (zb rfl) (zb rfl) (zb rfl) (fun W X Y=>by rw [← e17];exact r_cat s18 W X Y),
  trivial⟩ mixed (by kernel_rfl))
theorem zct {n:Int} (h:-9223372036854775808≤n∧n≤9223372036854775807):(Lib.itoa n).length≤21:=Lib.itoa_length_le n h.1 h.2
theorem zkT {w0:World} {N:Int} (IH:zbf w0 N) (n:Int) (r:List UInt8) (hr:Lib.itoa n=r) (h0:0≤n) (hN:n≤N+1) (hN1:9≤N+1∧N≤2000000):Fun (KN w0) Tryz.prog 46 [.o (.c (pI n))] (.o (.c (pS r))):=by
 obtain ⟨v1,e1⟩:∃v,(decide (n<(0:Int)))=v:=⟨_,rfl⟩
 cases h2:v1 with
 | true =>
  (exfalso;have z:=of_decide_eq_true (e1.trans h2);omega)
 | false =>
  obtain ⟨v3,e3⟩:∃v,(decide (n ≥ (0:Int)))=v:=⟨_,rfl⟩
  cases h4:v3 with
  | true =>
   obtain ⟨v5,e5⟩:∃v,(decide (n<(10:Int)))=v:=⟨_,rfl⟩
   cases h6:v5 with
   | true =>
    obtain ⟨v7,e7⟩:∃v,(IntKind.i64.wrap ((48:Int)+n))=v:=⟨_,rfl⟩
    obtain ⟨v8,e8⟩:∃v,(IntKind.u8.wrap v7)=v:=⟨_,rfl⟩
    have s9:0≤v8∧v8<256:=by (have dh2:=of_decide_eq_false (e1.trans h2);have dh4:=of_decide_eq_true (e3.trans h4);have dh6:=of_decide_eq_true (e5.trans h6);have qv7:v7=48+n:=(by rw [← e7,wri (by omega)]);have qv8:v8=48+n:=(by rw [← e8,IntKind.wrap_u8];omega);omega)
    obtain ⟨v10,e10⟩:∃v,([bI v8])=v:=⟨_,rfl⟩
    refine Fun.imp (zh2 n N IH v1 v3 v5 v7 v8 v10 e1 e3 e5 e7 e8 e10 h2 h4 h6 s9) (fun _ _ _ h=>h) (fun v W D h=>?_)
    have r0:r=v10:=by
     (have dh2:=of_decide_eq_false (e1.trans h2);have dh4:=of_decide_eq_true (e3.trans h4);have dh6:=of_decide_eq_true (e5.trans h6);have qv7:v7=48+n:=(by rw [← e7,wri (by omega)]);have qv8:v8=48+n:=(by rw [← e8,IntKind.wrap_u8];omega);rw [← hr,← e10,qv8];exact zV (by omega) (by omega))
    rw [r0];exact h
   | false =>
    obtain ⟨v7,e7⟩:∃v,(decide (n<(0:Int)))=v:=⟨_,rfl⟩
    cases h8:v7 with
    | true =>
     (exfalso;have dh2:=of_decide_eq_false (e1.trans h2);have dh4:=of_decide_eq_true (e3.trans h4);have dh6:=of_decide_eq_false (e5.trans h6);have z:=of_decide_eq_true (e7.trans h8);omega)
    | false =>
     obtain ⟨v9,e9⟩:∃v,(IntKind.i64.wrap ((n:Int).tdiv (10:Int)))=v:=⟨_,rfl⟩
     obtain ⟨v10,e10⟩:∃v,(Lib.itoa v9)=v:=⟨_,rfl⟩
     have s11:0≤v9:=by (have dh2:=of_decide_eq_false (e1.trans h2);have dh4:=of_decide_eq_true (e3.trans h4);have dh6:=of_decide_eq_false (e5.trans h6);have dh8:=of_decide_eq_false (e7.trans h8);have qv9:v9=n / 10:=(by rw [← e9,Int.tdiv_eq_ediv_of_nonneg (by omega),wri (by omega)]);omega)
     have s12:v9≤N:=by (have dh2:=of_decide_eq_false (e1.trans h2);have dh4:=of_decide_eq_true (e3.trans h4);have dh6:=of_decide_eq_false (e5.trans h6);have dh8:=of_decide_eq_false (e7.trans h8);have qv9:v9=n / 10:=(by rw [← e9,Int.tdiv_eq_ediv_of_nonneg (by omega),wri (by omega)]);omega)
     obtain ⟨v13,e13⟩:∃v,((n:Int).tmod (10:Int))=v:=⟨_,rfl⟩
     obtain ⟨v14,e14⟩:∃v,(Lib.itoa v13)=v:=⟨_,rfl⟩
     have s15:0≤v13:=by (have dh2:=of_decide_eq_false (e1.trans h2);have dh4:=of_decide_eq_true (e3.trans h4);have dh6:=of_decide_eq_false (e5.trans h6);have dh8:=of_decide_eq_false (e7.trans h8);have qv9:v9=n / 10:=(by rw [← e9,Int.tdiv_eq_ediv_of_nonneg (by omega),wri (by omega)]);have qv13:v13=n%10:=(by rw [← e13,Int.tmod_eq_emod_of_nonneg (by omega)]);omega)
     have s16:v13≤N:=by (have dh2:=of_decide_eq_false (e1.trans h2);have dh4:=of_decide_eq_true (e3.trans h4);have dh6:=of_decide_eq_false (e5.trans h6);have dh8:=of_decide_eq_false (e7.trans h8);have qv9:v9=n / 10:=(by rw [← e9,Int.tdiv_eq_ediv_of_nonneg (by omega),wri (by omega)]);have qv13:v13=n%10:=(by rw [← e13,Int.tmod_eq_emod_of_nonneg (by omega)]);omega)
     obtain ⟨v17,e17⟩:∃v,(v10++v14)=v:=⟨_,rfl⟩
     have s18:(((v10:List UInt8).length+(v14:List UInt8).length:Nat):Int)≤9223372036854775807:=by (have dh2:=of_decide_eq_false (e1.trans h2);have dh4:=of_decide_eq_true (e3.trans h4);have dh6:=of_decide_eq_false (e5.trans h6);have dh8:=of_decide_eq_false (e7.trans h8);have qv9:v9=n / 10:=(by rw [← e9,Int.tdiv_eq_ediv_of_nonneg (by omega),wri (by omega)]);have qv13:v13=n%10:=(by rw [← e13,Int.tmod_eq_emod_of_nonneg (by omega)]);have:=zct (n:=v9) (by omega);rw [e10] at this;have:=zct (n:=v13) (by omega);rw [e14] at this;(try simp only [List.length_cons,List.length_nil]);omega)
     refine Fun.imp (zmj n N IH v1 v3 v5 v7 v9 v10 v13 v14 v17 e1 e3 e5 e7 e9 e10 e13 e14 e17 h2 h4 h6 h8 s11 s12 s15 s16 s18) (fun _ _ _ h=>h) (fun v W D h=>?_)
     have r0:r=v17:=by
      (have dh2:=of_decide_eq_false (e1.trans h2);have dh4:=of_decide_eq_true (e3.trans h4);have dh6:=of_decide_eq_false (e5.trans h6);have dh8:=of_decide_eq_false (e7.trans h8);have qv9:v9=n / 10:=(by rw [← e9,Int.tdiv_eq_ediv_of_nonneg (by omega),wri (by omega)]);have qv13:v13=n%10:=(by rw [← e13,Int.tmod_eq_emod_of_nonneg (by omega)]);rw [← hr,← e17,← e10,← e14,qv9,qv13,zaz (by omega),Int.tdiv_eq_ediv_of_nonneg (by omega),Int.tmod_eq_emod_of_nonneg (by omega)])
     rw [r0];exact h
  | false =>
   (exfalso;have dh2:=of_decide_eq_false (e1.trans h2);have z:=of_decide_eq_false (e3.trans h4);omega)
theorem zmh {w0:World} {N:Int} (IH:zbf w0 N) (n:Int) (r:List UInt8) (hr:Lib.itoa n=r) (h0:0≤n) (hN:n≤9):Fun (KN w0) Tryz.prog 46 [.o (.c (pI n))] (.o (.c (pS r))):=by
 obtain ⟨v1,e1⟩:∃v,(decide (n<(0:Int)))=v:=⟨_,rfl⟩
 cases h2:v1 with
 | true =>
  (exfalso;have z:=of_decide_eq_true (e1.trans h2);omega)
 | false =>
  obtain ⟨v3,e3⟩:∃v,(decide (n ≥ (0:Int)))=v:=⟨_,rfl⟩
  cases h4:v3 with
  | true =>
   obtain ⟨v5,e5⟩:∃v,(decide (n<(10:Int)))=v:=⟨_,rfl⟩
   cases h6:v5 with
   | true =>
    obtain ⟨v7,e7⟩:∃v,(IntKind.i64.wrap ((48:Int)+n))=v:=⟨_,rfl⟩
    obtain ⟨v8,e8⟩:∃v,(IntKind.u8.wrap v7)=v:=⟨_,rfl⟩
    have s9:0≤v8∧v8<256:=by (have dh2:=of_decide_eq_false (e1.trans h2);have dh4:=of_decide_eq_true (e3.trans h4);have dh6:=of_decide_eq_true (e5.trans h6);have qv7:v7=48+n:=(by rw [← e7,wri (by omega)]);have qv8:v8=48+n:=(by rw [← e8,IntKind.wrap_u8];omega);omega)
    obtain ⟨v10,e10⟩:∃v,([bI v8])=v:=⟨_,rfl⟩
    refine Fun.imp (zh2 n N IH v1 v3 v5 v7 v8 v10 e1 e3 e5 e7 e8 e10 h2 h4 h6 s9) (fun _ _ _ h=>h) (fun v W D h=>?_)
    have r0:r=v10:=by
     (have dh2:=of_decide_eq_false (e1.trans h2);have dh4:=of_decide_eq_true (e3.trans h4);have dh6:=of_decide_eq_true (e5.trans h6);have qv7:v7=48+n:=(by rw [← e7,wri (by omega)]);have qv8:v8=48+n:=(by rw [← e8,IntKind.wrap_u8];omega);rw [← hr,← e10,qv8];exact zV (by omega) (by omega))
    rw [r0];exact h
   | false =>
    (exfalso;have dh2:=of_decide_eq_false (e1.trans h2);have dh4:=of_decide_eq_true (e3.trans h4);have z:=of_decide_eq_false (e5.trans h6);omega)
  | false =>
   (exfalso;have dh2:=of_decide_eq_false (e1.trans h2);have z:=of_decide_eq_false (e3.trans h4);omega)
theorem zot {w0:World} (n:Int) (v:List UInt8) (hv:Lib.itoa n=v) (h0:0≤n) (h1:n≤9):Fun (KN w0) Tryz.prog 46 [.o (.c (pI n))] (.o (.c (pS v))):=zmh (N:=-1) (fun m u hu h2 h3=>absurd h3 (by omega)) n v hv h0 h1
theorem zou {w0:World} {N:Int} (IH:zbf w0 N) (n:Int) (r:List UInt8) (hr:Lib.itoa n=r) (h0:n<0) (hN:-n≤N) (hN1:N≤2000000):Fun (KN w0) Tryz.prog 46 [.o (.c (pI n))] (.o (.c (pS r))):=by
 obtain ⟨v1,e1⟩:∃v,(decide (n<(0:Int)))=v:=⟨_,rfl⟩
 cases h2:v1 with
 | true =>
  obtain ⟨v3,e3⟩:∃v,(decide (n > (-4611686018427387904:Int)))=v:=⟨_,rfl⟩
  cases h4:v3 with
  | true =>
   obtain ⟨v5,e5⟩:∃v,(IntKind.i64.wrap (0 - n))=v:=⟨_,rfl⟩
   obtain ⟨v6,e6⟩:∃v,(Lib.itoa v5)=v:=⟨_,rfl⟩
   have s7:0≤v5:=by (have dh2:=of_decide_eq_true (e1.trans h2);have dh4:=of_decide_eq_true (e3.trans h4);have qv5:v5=-n:=(by rw [← e5,wri (by omega)];omega);omega)
   have s8:v5≤N:=by (have dh2:=of_decide_eq_true (e1.trans h2);have dh4:=of_decide_eq_true (e3.trans h4);have qv5:v5=-n:=(by rw [← e5,wri (by omega)];omega);omega)
   obtain ⟨v9,e9⟩:∃v,([45]++v6)=v:=⟨_,rfl⟩
   have s10:((([45]:List UInt8).length+(v6:List UInt8).length:Nat):Int)≤9223372036854775807:=by (have dh2:=of_decide_eq_true (e1.trans h2);have dh4:=of_decide_eq_true (e3.trans h4);have qv5:v5=-n:=(by rw [← e5,wri (by omega)];omega);have:=zct (n:=v5) (by omega);rw [e6] at this;(try simp only [List.length_cons,List.length_nil]);omega)
   refine Fun.imp (zmi n N IH v1 v3 v5 v6 v9 e1 e3 e5 e6 e9 h2 h4 s7 s8 s10) (fun _ _ _ h=>h) (fun v W D h=>?_)
   have r0:r=v9:=by
    (have dh2:=of_decide_eq_true (e1.trans h2);have dh4:=of_decide_eq_true (e3.trans h4);have qv5:v5=-n:=(by rw [← e5,wri (by omega)];omega);rw [← hr,← e9,← e6,qv5];exact zdZ (by omega))
   rw [r0];exact h
  | false =>
   (exfalso;have dh2:=of_decide_eq_true (e1.trans h2);have z:=of_decide_eq_false (e3.trans h4);omega)
 | false =>
  (exfalso;have z:=of_decide_eq_false (e1.trans h2);omega)
theorem zfQ {w0:World}:∀N:Nat,N≤1048576→zbf w0 (9+N)
 | 0,_=>fun n v hv h0 hN=>zkT (N:=8) (fun m u hu h1 h2=>zot m u hu h1 (by omega)) n v hv h0 (by omega) (by omega)
 | N+1,h=>fun n v hv h0 hN=>zkT (N:=9+N) (zfQ N (by omega)) n v hv h0 (by omega) (by omega)
theorem x_dec {w0:World} (n:Int) (v:List UInt8) (hv:Lib.itoa n=v) (hn:valB n=true):Fun (KN w0) Tryz.prog 46 [.o (.c (pI n))] (.o (.c (pS v))):=by
 have:=zat.1 hn
 have h:=zfQ (w0:=w0) 1048576 (by omega)
 by_cases h0:n<0
 ·exact zou h n v hv h0 (by omega) (by omega)
 ·exact h n v hv (by omega) (by omega)
end Go.Proofs.YtdkofaajcpcjkaaGreatDoor
namespace Go.Proofs.YtdkofaajcpcjkaaGreatDoor
open Go.RowKit
mutual
def sameX:Xp→Xp→Bool
 | .mk o n l,b=>(o == b.op) && (n == b.n) && sameL l b.l
def sameL:List Xp→List Xp→Bool
 | [],[]=>true
 | x::r,y::s=>sameX x y && sameL r s
 | [],_::_=>false
 | _::_,[]=>false
end
mutual
theorem zfF:∀a b:Xp,sameX a b=true↔a=b
 | .mk o n l,.mk p m k=>by
  rw [sameX,Bool.and_eq_true,Bool.and_eq_true,beq_iff_eq,beq_iff_eq,zdv l]
  simp only [Xp.op,Xp.n,Xp.l,Xp.mk.injEq,and_assoc]
theorem zdv:∀l m:List Xp,sameL l m=true↔l=m
 | [],[]=>by rw [sameL];simp
 | x::r,y::s=>by rw [sameL,Bool.and_eq_true,zfF x,zdv r,List.cons.injEq]
 | [],_::_=>by rw [sameL];simp
 | _::_,[]=>by rw [sameL];simp
end
theorem zaL (a b:Xp):sameX a b=((a.op == b.op) && (a.n == b.n) && sameL a.l b.l):=by cases a;rw [sameX];rfl
theorem zav {l m:List Xp} {k:Nat} {x y:Xp} (h:l[k]?=some x) (h2:m[k]?=some y):sameL (l.drop k) (m.drop k)=(sameX x y && sameL (l.drop (k+1)) (m.drop (k+1))):=by
 obtain ⟨hk,rfl⟩:=List.getElem?_eq_some_iff.1 h
 obtain ⟨hk2,rfl⟩:=List.getElem?_eq_some_iff.1 h2
 rw [List.drop_eq_getElem_cons hk,List.drop_eq_getElem_cons hk2,sameL]
theorem zfE {l m:List Xp} (h:l.length≠m.length):sameL l m=false:=by
 cases e:sameL l m with
 | false=>rfl
 | true=>exact absurd (congrArg List.length ((zdv l m).1 e)) h
def z7 (w0:World) (N:Nat):Prop:=∀(x y:Xp) (v:Bool),sameX x y=v→nodes x≤N→Fun (KN w0) Tryz.prog 16 [.o (.g [pI x.op,pI x.n,pLs cE x.l]),.o (.g [pI y.op,pI y.n,pLs cE y.l])] (.o (.c (pB v)))
def zW (w0:World) (N:Nat):Prop:=∀(x y:Xp) (v:Bool),sameX x y=v→nodes x≤N→Fun (KN w0) Tryz.prog 10 [.o (.g [pI x.op,pI x.n,pLs cE x.l]),.o (.g [pI y.op,pI y.n,pLs cE y.l])] (.o (.c (pB v)))
structure x_eqf_A_T where
 i:Int
def zX:List Atom:=[.sl 0 (yh 0),.sl 1 (yh 1),.sl 2 (.o (.c (.q 16 []))),.sl 10 (yh 0),.sl 11 (yh 2),.sl 12 (yh 1),.sl 13 (yh 3),.sl 14 (yh 4),.sl 15 (yh 0),.sl 16 (yh 5),.sl 17 (yh 6)]
def za1:LoopS:=⟨4,[.sl 0 (yh 0),.sl 1 (yh 1),.sl 2 (.o (.c (.q 16 []))),.sl 10 (yh 0),.sl 11 (yh 2),.sl 12 (yh 1),.sl 13 (yh 3),.sl 14 (yh 4),.sl 15 (yh 0),.sl 16 (yh 5),.sl 17 (.o (.c (.k (.int .i64 0))))],(.x 0),[.sl 0 (yh 0),.sl 1 (yh 1),.sl 2 (.o (.c (.q 16 []))),.sl 10 (yh 0),.sl 11 (yh 2),.sl 12 (yh 1),.sl 13 (yh 3),.sl 14 (yh 4),.sl 15 (yh 0),.sl 16 (yh 5)]⟩
theorem zej {w0:World} (l:(List Xp)) (l2:(List Xp)) (N:Nat) (v1:Int) (v2:Int) (v3:Bool) (v5:Int) (IH:z7 w0 N) (h4:v3=false) (i:Int) (v501:Bool) (n503:Nat) (x504:Xp) (n507:Nat) (x508:Xp) (v511:Bool) (v513:Bool) (v515:Int) (e501:(decide (i<v5))=v501) (e511:(sameX x504 x508)=v511) (e513:(!v511)=v513) (e515:(IntKind.i64.wrap (i+(1:Int)))=v515) (h502:v501=true) (s505:i=(n503:Int)) (s506:l[n503]?=some x504) (s509:i=(n507:Int)) (s510:l2[n507]?=some x508) (s512:nodes x504≤N) (h514:v513=false) (i':Int) (q0:(v515)=i') (R:Frm) (hR:R.pm=⟨ntOf Tryz.prog 35,[],[]⟩):Goes (KN w0) Tryz.prog R (lp Tryz.prog 35 0) (FL [pLs cE l,pLs cE l2,pI v1,pI v2,pB v3,pI v5,pI i] []) zX .n (FL [pLs cE l,pLs cE l2,pI v1,pI v2,pB v3,pI v5,pI i'] []) zX:=
 goes (x:=.n) (y:=.n) (Fb:=FL [pLs cE l,pLs cE l2,pI v1,pI v2,pB v3,pI v5,pI i,pB v501,pP (cE x504),pI x504.op,pI x504.n,pLs cE x504.l,pP (cE x508),pI x508.op,pI x508.n,pLs cE x508.l,pB v511,pB v513,pI v515] []) (stb:=zX) (tl:=[.sl 0 (yh 0),.sl 1 (yh 1),.sl 2 (.o (.c (.q 16 []))),.sl 10 (yh 0),.sl 11 (yh 2),.sl 12 (yh 1),.sl 13 (yh 3),.sl 14 (yh 4),.sl 15 (yh 0),.sl 16 (yh 5),.sl 17 (yh 18)]) (C:=((10004,.fb 4 false) ::
  (1005000,.bin .lss 3 (yh 6) (yh 5) (yh 7)) ::
  (10007,.fb 7 true) ::
  (1005002,.op (.ia 29) [yh 0,yh 6] [] (yh 8)) ::
  (1005003,.op (.ld 32) [yh 8] [] (.o (.g [.h 9,.h 10,.h 11]))) ::
  (1005009,.op (.ia 29) [yh 1,yh 6] [] (yh 12)) ::
  (1005010,.op (.ld 32) [yh 12] [] (.o (.g [.h 13,.h 14,.h 15]))) ::
  (1005016,.call ⟨16,[.o (.g [.h 9,.h 10,.h 11]),.o (.g [.h 13,.h 14,.h 15])],[],yh 16,[]⟩) ::
  (1005017,.un .not (yh 16) (yh 17)) ::
  (10017,.fb 17 false) ::
  (1005018,.bin .add 3 (yh 6) (LF (.k (.int .i64 1))) (yh 18)) ::
  []:List (Nat×Ent))) (H:=.no) 5000 (zipA.imp ⟨z_c yy,z_c yy,z_c yy,z_c yy,z_c yy,z_c yy,z_c yy,z_c yy,z_c yy,z_c yy,z_c yy,trivial⟩) (zg ⟨(ze (zf rfl)),(ze (zf rfl)),za,za,za,za,za,za,(zl ((zf rfl) _)),za,za,(ze (zf rfl)),(zl ((zf rfl) _)),za,za,(ze (zf rfl)),za,za,za,trivial⟩) ⟨e_fbv h4,
  e_bin (zb rfl) (zb rfl) (zb rfl) (r_cmp (congrArg some e501)),
  e_fbv h502,
  e_iaL (E:=32) (z:=3) zj (by kernel_rfl) (by kernel_rfl) (zc rfl) (zb rfl) s505 s506 (zc rfl),
  e_ldG (by kernel_rfl) (by kernel_rfl) (zc rfl) (cE_eq _).symm rfl (zj _),
  e_iaL (E:=32) (z:=3) zj (by kernel_rfl) (by kernel_rfl) (zc rfl) (zb rfl) s509 s510 (zc rfl),
  e_ldG (by kernel_rfl) (by kernel_rfl) (zc rfl) (cE_eq _).symm rfl (zj _),
  zh (IH x504 x508 v511 e511 s512),
  e_un (zb rfl) (zb rfl) (fun W=>by rw [← e513];exact r_not W),
  e_fbv h514,
  e_bin (zb rfl) zd (zb rfl) (r_ar (congrArg some e515)),
  trivial⟩ mixed hR trivial (fun _ _ _ hs=>by cases hs) (by kernel_rfl:zA (KN w0) Tryz.prog _ .no ⟨ntOf Tryz.prog 35,[],[]⟩ (lp Tryz.prog 35 0) 5000 zX .n [.sl 0 (yh 0),.sl 1 (yh 1),.sl 2 (.o (.c (.q 16 []))),.sl 10 (yh 0),.sl 11 (yh 2),.sl 12 (yh 1),.sl 13 (yh 3),.sl 14 (yh 4),.sl 15 (yh 0),.sl 16 (yh 5),.sl 17 (yh 18)]=true) rfl (zipA.imp ⟨z_c yy,z_c yy,z_c yy,z_c yy,z_c yy,z_c yy,z_c yy,z_c yy,z_c yy,z_c yy,z_c (fun β v W h=>(zc rfl β v W).2 (by rw [← q0];exact h)),trivial⟩)
theorem ziB {w0:World} (l:(List Xp)) (l2:(List Xp)) (N:Nat) (v1:Int) (v2:Int) (v3:Bool) (v5:Int) (IH:z7 w0 N) (h4:v3=false) (i:Int) (v501:Bool) (e501:(decide (i<v5))=v501) (h502:v501=false) (F:Fact) (u0:F.c 0=pLs cE l) (u1:F.c 1=pLs cE l2) (u2:F.c 2=pI v1) (u3:F.c 3=pI v2) (u4:F.c 4=pB v3) (u5:F.c 5=pI v5) (R:Frm) (hR:R.pm=⟨ntOf Tryz.prog 35,[],[]⟩):Goes (KN w0) Tryz.prog R (lp Tryz.prog 35 0) (FL [pLs cE l,pLs cE l2,pI v1,pI v2,pB v3,pI v5,pI i] []) zX (.x 0) F za1.out:=
 goes (x:=(.x 0)) (y:=(.x 0)) (Fb:=FL [pLs cE l,pLs cE l2,pI v1,pI v2,pB v3,pI v5,pI i,pB v501] []) (stb:=zX) (tl:=[.sl 0 (yh 0),.sl 1 (yh 1),.sl 2 (.o (.c (.q 16 []))),.sl 10 (yh 0),.sl 11 (yh 2),.sl 12 (yh 1),.sl 13 (yh 3),.sl 14 (yh 4),.sl 15 (yh 0),.sl 16 (yh 5)]) (C:=((10004,.fb 4 false) ::
  (1005000,.bin .lss 3 (yh 6) (yh 5) (yh 7)) ::
  (10007,.fb 7 false) ::
  []:List (Nat×Ent))) (H:=.no) 5000 (zipA.imp ⟨z_c yy,z_c yy,z_c yy,z_c yy,z_c yy,z_c yy,z_c yy,z_c yy,z_c yy,z_c yy,z_c yy,trivial⟩) (zg ⟨(ze (zf rfl)),(ze (zf rfl)),za,za,za,za,za,za,trivial⟩) ⟨e_fbv h4,
  e_bin (zb rfl) (zb rfl) (zb rfl) (r_cmp (congrArg some e501)),
  e_fbv h502,
  trivial⟩ mixed hR trivial (fun _ _ _ hs=>by cases hs) (by kernel_rfl:zA (KN w0) Tryz.prog _ .no ⟨ntOf Tryz.prog 35,[],[]⟩ (lp Tryz.prog 35 0) 5000 zX (.x 0) [.sl 0 (yh 0),.sl 1 (yh 1),.sl 2 (.o (.c (.q 16 []))),.sl 10 (yh 0),.sl 11 (yh 2),.sl 12 (yh 1),.sl 13 (yh 3),.sl 14 (yh 4),.sl 15 (yh 0),.sl 16 (yh 5)]=true) rfl (zipA.imp ⟨z_c (fun β v W h=>(zc u0 β v W).2 h),z_c (fun β v W h=>(zc u1 β v W).2 h),z_c yy,z_c (fun β v W h=>(zc u0 β v W).2 h),z_c (fun β v W h=>(zc u2 β v W).2 h),z_c (fun β v W h=>(zc u1 β v W).2 h),z_c (fun β v W h=>(zc u3 β v W).2 h),z_c (fun β v W h=>(zc u4 β v W).2 h),z_c (fun β v W h=>(zc u0 β v W).2 h),z_c (fun β v W h=>(zc u5 β v W).2 h),trivial⟩)
def zkZ (l:(List Xp)) (l2:(List Xp)) (N:Nat) (v1:Int) (v2:Int) (v3:Bool) (v5:Int) (t:x_eqf_A_T):Prop:=(∃(v501:Bool),((decide (t.i<v5))=v501)∧(v501=false)∧True)
def zfR (l:(List Xp)) (l2:(List Xp)) (N:Nat) (v1:Int) (v2:Int) (v3:Bool) (v5:Int) (t t':x_eqf_A_T):Prop:=(∃(v501:Bool),∃(n503:Nat),∃(x504:Xp),∃(n507:Nat),∃(x508:Xp),∃(v511:Bool),∃(v513:Bool),∃(v515:Int),((decide (t.i<v5))=v501)∧((sameX x504 x508)=v511)∧((!v511)=v513)∧((IntKind.i64.wrap (t.i+(1:Int)))=v515)∧(v501=true)∧(t.i=(n503:Int))∧(l[n503]?=some x504)∧(t.i=(n507:Int))∧(l2[n507]?=some x508)∧(nodes x504≤N)∧(v513=false)∧((v515)=t'.i)∧True)
theorem zfS {w0:World} (l:(List Xp)) (l2:(List Xp)) (N:Nat) (v1:Int) (v2:Int) (v3:Bool) (v5:Int) (IH:z7 w0 N) (h4:v3=false) {F:Fact} (u0:F.c 0=pLs cE l) (u1:F.c 1=pLs cE l2) (u2:F.c 2=pI v1) (u3:F.c 3=pI v2) (u4:F.c 4=pB v3) (u5:F.c 5=pI v5) (R:Frm) (hR:R.pm=⟨ntOf Tryz.prog 35,[],[]⟩) (J:x_eqf_A_T→Prop) (m:x_eqf_A_T→Nat) (hJ:J { i:=(0:Int) }) (rounds:∀t,J t→zkZ l l2 N v1 v2 v3 v5 t ∨∃t',zfR l l2 N v1 v2 v3 v5 t t'∧m t'<m t∧J t'):zi (KN w0) Tryz.prog F R za1 (lp Tryz.prog 35 0):=by
 refine zB (T:=x_eqf_A_T) (fun t=>FL [pLs cE l,pLs cE l2,pI v1,pI v2,pB v3,pI v5,pI t.i] []) J m { i:=(0:Int) } zX hJ (zipA.imp ⟨z_c (fun β v W h=>(zc u0 β v W).1 h),z_c (fun β v W h=>(zc u1 β v W).1 h),z_c yy,z_c (fun β v W h=>(zc u0 β v W).1 h),z_c (fun β v W h=>(zc u2 β v W).1 h),z_c (fun β v W h=>(zc u1 β v W).1 h),z_c (fun β v W h=>(zc u3 β v W).1 h),z_c (fun β v W h=>(zc u4 β v W).1 h),z_c (fun β v W h=>(zc u0 β v W).1 h),z_c (fun β v W h=>(zc u5 β v W).1 h),z_c yy,trivial⟩) rfl fun t ht=>?_
 rcases rounds t ht with hz_ | ⟨t',hz_,hm_,hj_⟩
 ·refine .inl ?_
  rcases hz_ with ⟨v501,e501,h502,_⟩
  ·exact ziB  l l2 N v1 v2 v3 v5 IH h4 t.i v501 e501 h502  F u0 u1 u2 u3 u4 u5  R hR
 ·refine .inr ⟨t',hm_,hj_,?_⟩
  rcases hz_ with ⟨v501,n503,x504,n507,x508,v511,v513,v515,e501,e511,e513,e515,h502,s505,s506,s509,s510,s512,h514,q0,_⟩
  ·exact zej  l l2 N v1 v2 v3 v5 IH h4 t.i v501 n503 x504 n507 x508 v511 v513 v515 e501 e511 e513 e515 h502 s505 s506 s509 s510 s512 h514 t'.i q0 R hR
theorem ziA {w0:World} (l:(List Xp)) (l2:(List Xp)) (N:Nat) (v1:Int) (v2:Int) (v3:Bool) (v5:Int) (IH:z7 w0 N) (h4:v3=false) {F:Fact} (u0:F.c 0=pLs cE l) (u1:F.c 1=pLs cE l2) (u2:F.c 2=pI v1) (u3:F.c 3=pI v2) (u4:F.c 4=pB v3) (u5:F.c 5=pI v5) (R:Frm) (hR:R.pm=⟨ntOf Tryz.prog 35,[],[]⟩) (hb:l.length<9223372036854775808) (hlm:l.length=l2.length) (hN:∀x∈l,nodes x≤N) (hln:(l.length:Int)=v5) (hO:sameL l l2=true):zi (KN w0) Tryz.prog F R za1 (lp Tryz.prog 35 0):=by
 refine zfS  l l2 N v1 v2 v3 v5 IH h4  u0 u1 u2 u3 u4 u5 R hR (fun ⟨i⟩=>∃k:Nat,i=(k:Int)∧k≤l.length∧sameL (l.drop k) (l2.drop k)=true) (fun ⟨i⟩=>((l.length:Int) - i).toNat) ⟨0,rfl,Nat.zero_le _,by rw [List.drop_zero,List.drop_zero];exact hO⟩ fun t hJ=>?_
 obtain ⟨i⟩:=t
 dsimp only at hJ
 obtain ⟨k,hi,hk,hs⟩:=hJ
 obtain ⟨v501,e501⟩:∃v,(decide (i<v5))=v:=⟨_,rfl⟩
 cases h502:v501 with
 | true =>
  obtain ⟨n503,x504,s505,s506⟩:∃(n503:Nat) (x504:Xp),i=(n503:Int)∧l[n503]?=some x504:=by (have dh502:=of_decide_eq_true (e501.trans h502);have hz:=hln;have hlt:k<l.length:=(by omega);exact ⟨k,_,hi,List.getElem?_eq_getElem hlt⟩)
  obtain ⟨n507,x508,s509,s510⟩:∃(n507:Nat) (x508:Xp),i=(n507:Int)∧l2[n507]?=some x508:=by (have dh502:=of_decide_eq_true (e501.trans h502);have hz:=hln;have hlt:k<l2.length:=(by omega);exact ⟨k,_,hi,List.getElem?_eq_getElem hlt⟩)
  obtain ⟨v511,e511⟩:∃v,(sameX x504 x508)=v:=⟨_,rfl⟩
  have s512:nodes x504≤N:=by exact hN _ (List.mem_of_getElem? s506)
  obtain ⟨v513,e513⟩:∃v,(!v511)=v:=⟨_,rfl⟩
  cases h514:v513 with
  | true =>
   exfalso
   have dh502:=of_decide_eq_true (e501.trans h502);have hz:=hln;have hk1:n503=k:=(by omega);have hk2:n503=n507:=(by omega);subst hk1;subst hk2;have hd:=zav s506 s510;rw [e511,show v511=false from (by simp_all)] at hd;rw [hs] at hd;cases hd
  | false =>
   obtain ⟨v515,e515⟩:∃v,(IntKind.i64.wrap (i+(1:Int)))=v:=⟨_,rfl⟩
   refine .inr ⟨⟨v515⟩,⟨v501,n503,x504,n507,x508,v511,v513,v515,e501,e511,e513,e515,h502,s505,s506,s509,s510,s512,h514,rfl,trivial⟩,?_,?_⟩
   all_goals (have dh502:=of_decide_eq_true (e501.trans h502);have hz:=hln;have hk1:n503=k:=(by omega);have hk2:n503=n507:=(by omega);subst hk1;subst hk2;have hd:=zav s506 s510;rw [e511,show v511=true from (by simp_all)] at hd;have hlt:n503<l.length:=(List.getElem?_eq_some_iff.1 s506).1;have x3:v515=((n503+1:Nat):Int):=(by rw [← e515,hi,wri (by omega)];omega))
   ·show ((l.length:Int) - v515).toNat<((l.length:Int) - i).toNat
    omega
   ·exact ⟨n503+1,x3,by omega,by rw [hs,Bool.true_and] at hd;exact hd.symm⟩
 | false =>
  refine .inl (⟨v501,e501,h502,trivial⟩)
def za2:LoopS:=⟨4,[.sl 0 (yh 0),.sl 1 (yh 1),.sl 2 (.o (.c (.q 16 []))),.sl 10 (yh 0),.sl 11 (yh 2),.sl 12 (yh 1),.sl 13 (yh 3),.sl 14 (yh 4),.sl 15 (yh 0),.sl 16 (yh 5),.sl 17 (.o (.c (.k (.int .i64 0))))],.r,[.sl 0 (yh 0),.sl 1 (yh 1),.sl 2 (.o (.c (.q 16 []))),.sl 6 (yh 6),.sl 10 (yh 0),.sl 11 (yh 2),.sl 12 (yh 1),.sl 13 (yh 3),.sl 14 (yh 4),.sl 15 (yh 0),.sl 16 (yh 5)]⟩
theorem ziD {w0:World} (l:(List Xp)) (l2:(List Xp)) (N:Nat) (v1:Int) (v2:Int) (v3:Bool) (v5:Int) (IH:z7 w0 N) (h4:v3=false) (i:Int) (v501:Bool) (n503:Nat) (x504:Xp) (n507:Nat) (x508:Xp) (v511:Bool) (v513:Bool) (e501:(decide (i<v5))=v501) (e511:(sameX x504 x508)=v511) (e513:(!v511)=v513) (h502:v501=true) (s505:i=(n503:Int)) (s506:l[n503]?=some x504) (s509:i=(n507:Int)) (s510:l2[n507]?=some x508) (s512:nodes x504≤N) (h514:v513=true) (o:Bool) (F:Fact) (u0:F.c 0=pLs cE l) (u1:F.c 1=pLs cE l2) (u2:F.c 2=pI v1) (u3:F.c 3=pI v2) (u4:F.c 4=pB v3) (u5:F.c 5=pI v5) (u6:F.c 6=pB o) (q0:(false)=o) (R:Frm) (hR:R.pm=⟨ntOf Tryz.prog 35,[],[]⟩):Goes (KN w0) Tryz.prog R (lp Tryz.prog 35 0) (FL [pLs cE l,pLs cE l2,pI v1,pI v2,pB v3,pI v5,pI i] []) zX .r F za2.out:=
 goes (x:=.r) (y:=.r) (Fb:=FL [pLs cE l,pLs cE l2,pI v1,pI v2,pB v3,pI v5,pI i,pB v501,pP (cE x504),pI x504.op,pI x504.n,pLs cE x504.l,pP (cE x508),pI x508.op,pI x508.n,pLs cE x508.l,pB v511,pB v513] []) (stb:=zX) (tl:=[.sl 0 (yh 0),.sl 1 (yh 1),.sl 2 (.o (.c (.q 16 []))),.sl 6 (.o (.c (.k (.bool false)))),.sl 10 (yh 0),.sl 11 (yh 2),.sl 12 (yh 1),.sl 13 (yh 3),.sl 14 (yh 4),.sl 15 (yh 0),.sl 16 (yh 5)]) (C:=((10004,.fb 4 false) ::
  (1005000,.bin .lss 3 (yh 6) (yh 5) (yh 7)) ::
  (10007,.fb 7 true) ::
  (1005002,.op (.ia 29) [yh 0,yh 6] [] (yh 8)) ::
  (1005003,.op (.ld 32) [yh 8] [] (.o (.g [.h 9,.h 10,.h 11]))) ::
  (1005009,.op (.ia 29) [yh 1,yh 6] [] (yh 12)) ::
  (1005010,.op (.ld 32) [yh 12] [] (.o (.g [.h 13,.h 14,.h 15]))) ::
  (1005016,.call ⟨16,[.o (.g [.h 9,.h 10,.h 11]),.o (.g [.h 13,.h 14,.h 15])],[],yh 16,[]⟩) ::
  (1005017,.un .not (yh 16) (yh 17)) ::
  (10017,.fb 17 true) ::
  []:List (Nat×Ent))) (H:=.no) 5000 (zipA.imp ⟨z_c yy,z_c yy,z_c yy,z_c yy,z_c yy,z_c yy,z_c yy,z_c yy,z_c yy,z_c yy,z_c yy,trivial⟩) (zg ⟨(ze (zf rfl)),(ze (zf rfl)),za,za,za,za,za,za,(zl ((zf rfl) _)),za,za,(ze (zf rfl)),(zl ((zf rfl) _)),za,za,(ze (zf rfl)),za,za,trivial⟩) ⟨e_fbv h4,
  e_bin (zb rfl) (zb rfl) (zb rfl) (r_cmp (congrArg some e501)),
  e_fbv h502,
  e_iaL (E:=32) (z:=3) zj (by kernel_rfl) (by kernel_rfl) (zc rfl) (zb rfl) s505 s506 (zc rfl),
  e_ldG (by kernel_rfl) (by kernel_rfl) (zc rfl) (cE_eq _).symm rfl (zj _),
  e_iaL (E:=32) (z:=3) zj (by kernel_rfl) (by kernel_rfl) (zc rfl) (zb rfl) s509 s510 (zc rfl),
  e_ldG (by kernel_rfl) (by kernel_rfl) (zc rfl) (cE_eq _).symm rfl (zj _),
  zh (IH x504 x508 v511 e511 s512),
  e_un (zb rfl) (zb rfl) (fun W=>by rw [← e513];exact r_not W),
  e_fbv h514,
  trivial⟩ mixed hR trivial (fun _ _ _ hs=>by cases hs) (by kernel_rfl:zA (KN w0) Tryz.prog _ .no ⟨ntOf Tryz.prog 35,[],[]⟩ (lp Tryz.prog 35 0) 5000 zX .r [.sl 0 (yh 0),.sl 1 (yh 1),.sl 2 (.o (.c (.q 16 []))),.sl 6 (.o (.c (.k (.bool false)))),.sl 10 (yh 0),.sl 11 (yh 2),.sl 12 (yh 1),.sl 13 (yh 3),.sl 14 (yh 4),.sl 15 (yh 0),.sl 16 (yh 5)]=true) rfl (zipA.imp ⟨z_c (fun β v W h=>(zc u0 β v W).2 h),z_c (fun β v W h=>(zc u1 β v W).2 h),z_c yy,z_c (fun β v W h=>(zc u6 β v W).2 (by rw [← q0];exact h)),z_c (fun β v W h=>(zc u0 β v W).2 h),z_c (fun β v W h=>(zc u2 β v W).2 h),z_c (fun β v W h=>(zc u1 β v W).2 h),z_c (fun β v W h=>(zc u3 β v W).2 h),z_c (fun β v W h=>(zc u4 β v W).2 h),z_c (fun β v W h=>(zc u0 β v W).2 h),z_c (fun β v W h=>(zc u5 β v W).2 h),trivial⟩)
def zk0 (l:(List Xp)) (l2:(List Xp)) (N:Nat) (v1:Int) (v2:Int) (v3:Bool) (v5:Int) (t:x_eqf_A_T) (o:Bool):Prop:=(∃(v501:Bool),∃(n503:Nat),∃(x504:Xp),∃(n507:Nat),∃(x508:Xp),∃(v511:Bool),∃(v513:Bool),((decide (t.i<v5))=v501)∧((sameX x504 x508)=v511)∧((!v511)=v513)∧(v501=true)∧(t.i=(n503:Int))∧(l[n503]?=some x504)∧(t.i=(n507:Int))∧(l2[n507]?=some x508)∧(nodes x504≤N)∧(v513=true)∧((false)=o)∧True)
theorem zfT {w0:World} (l:(List Xp)) (l2:(List Xp)) (N:Nat) (v1:Int) (v2:Int) (v3:Bool) (v5:Int) (IH:z7 w0 N) (h4:v3=false) (o:Bool) {F:Fact} (u0:F.c 0=pLs cE l) (u1:F.c 1=pLs cE l2) (u2:F.c 2=pI v1) (u3:F.c 3=pI v2) (u4:F.c 4=pB v3) (u5:F.c 5=pI v5) (u6:F.c 6=pB o) (R:Frm) (hR:R.pm=⟨ntOf Tryz.prog 35,[],[]⟩) (J:x_eqf_A_T→Prop) (m:x_eqf_A_T→Nat) (hJ:J { i:=(0:Int) }) (rounds:∀t,J t→zk0 l l2 N v1 v2 v3 v5 t o∨∃t',zfR l l2 N v1 v2 v3 v5 t t'∧m t'<m t∧J t'):zi (KN w0) Tryz.prog F R za2 (lp Tryz.prog 35 0):=by
 refine zB (T:=x_eqf_A_T) (fun t=>FL [pLs cE l,pLs cE l2,pI v1,pI v2,pB v3,pI v5,pI t.i] []) J m { i:=(0:Int) } zX hJ (zipA.imp ⟨z_c (fun β v W h=>(zc u0 β v W).1 h),z_c (fun β v W h=>(zc u1 β v W).1 h),z_c yy,z_c (fun β v W h=>(zc u0 β v W).1 h),z_c (fun β v W h=>(zc u2 β v W).1 h),z_c (fun β v W h=>(zc u1 β v W).1 h),z_c (fun β v W h=>(zc u3 β v W).1 h),z_c (fun β v W h=>(zc u4 β v W).1 h),z_c (fun β v W h=>(zc u0 β v W).1 h),z_c (fun β v W h=>(zc u5 β v W).1 h),z_c yy,trivial⟩) rfl fun t ht=>?_
 rcases rounds t ht with hz_ | ⟨t',hz_,hm_,hj_⟩
 ·refine .inl ?_
  rcases hz_ with ⟨v501,n503,x504,n507,x508,v511,v513,e501,e511,e513,h502,s505,s506,s509,s510,s512,h514,q0,_⟩
  ·exact ziD  l l2 N v1 v2 v3 v5 IH h4 t.i v501 n503 x504 n507 x508 v511 v513 e501 e511 e513 h502 s505 s506 s509 s510 s512 h514 o F u0 u1 u2 u3 u4 u5 u6 q0 R hR
 ·refine .inr ⟨t',hm_,hj_,?_⟩
  rcases hz_ with ⟨v501,n503,x504,n507,x508,v511,v513,v515,e501,e511,e513,e515,h502,s505,s506,s509,s510,s512,h514,q0,_⟩
  ·exact zej  l l2 N v1 v2 v3 v5 IH h4 t.i v501 n503 x504 n507 x508 v511 v513 v515 e501 e511 e513 e515 h502 s505 s506 s509 s510 s512 h514 t'.i q0 R hR
theorem ziC {w0:World} (l:(List Xp)) (l2:(List Xp)) (N:Nat) (v1:Int) (v2:Int) (v3:Bool) (v5:Int) (IH:z7 w0 N) (h4:v3=false) (o:Bool) {F:Fact} (u0:F.c 0=pLs cE l) (u1:F.c 1=pLs cE l2) (u2:F.c 2=pI v1) (u3:F.c 3=pI v2) (u4:F.c 4=pB v3) (u5:F.c 5=pI v5) (u6:F.c 6=pB o) (R:Frm) (hR:R.pm=⟨ntOf Tryz.prog 35,[],[]⟩) (hb:l.length<9223372036854775808) (hlm:l.length=l2.length) (hN:∀x∈l,nodes x≤N) (hln:(l.length:Int)=v5) (hO:sameL l l2=false) (ho:o=false):zi (KN w0) Tryz.prog F R za2 (lp Tryz.prog 35 0):=by
 refine zfT  l l2 N v1 v2 v3 v5 IH h4 o u0 u1 u2 u3 u4 u5 u6 R hR (fun ⟨i⟩=>∃k:Nat,i=(k:Int)∧k≤l.length∧sameL (l.drop k) (l2.drop k)=false) (fun ⟨i⟩=>((l.length:Int) - i).toNat) ⟨0,rfl,Nat.zero_le _,by rw [List.drop_zero,List.drop_zero];exact hO⟩ fun t hJ=>?_
 obtain ⟨i⟩:=t
 dsimp only at hJ
 obtain ⟨k,hi,hk,hs⟩:=hJ
 obtain ⟨v501,e501⟩:∃v,(decide (i<v5))=v:=⟨_,rfl⟩
 cases h502:v501 with
 | true =>
  obtain ⟨n503,x504,s505,s506⟩:∃(n503:Nat) (x504:Xp),i=(n503:Int)∧l[n503]?=some x504:=by (have dh502:=of_decide_eq_true (e501.trans h502);have hz:=hln;have hlt:k<l.length:=(by omega);exact ⟨k,_,hi,List.getElem?_eq_getElem hlt⟩)
  obtain ⟨n507,x508,s509,s510⟩:∃(n507:Nat) (x508:Xp),i=(n507:Int)∧l2[n507]?=some x508:=by (have dh502:=of_decide_eq_true (e501.trans h502);have hz:=hln;have hlt:k<l2.length:=(by omega);exact ⟨k,_,hi,List.getElem?_eq_getElem hlt⟩)
  obtain ⟨v511,e511⟩:∃v,(sameX x504 x508)=v:=⟨_,rfl⟩
  have s512:nodes x504≤N:=by exact hN _ (List.mem_of_getElem? s506)
  obtain ⟨v513,e513⟩:∃v,(!v511)=v:=⟨_,rfl⟩
  cases h514:v513 with
  | true =>
   refine .inl (⟨v501,n503,x504,n507,x508,v511,v513,e501,e511,e513,h502,s505,s506,s509,s510,s512,h514,?_,trivial⟩)
   exact ho.symm
  | false =>
   obtain ⟨v515,e515⟩:∃v,(IntKind.i64.wrap (i+(1:Int)))=v:=⟨_,rfl⟩
   refine .inr ⟨⟨v515⟩,⟨v501,n503,x504,n507,x508,v511,v513,v515,e501,e511,e513,e515,h502,s505,s506,s509,s510,s512,h514,rfl,trivial⟩,?_,?_⟩
   all_goals (have dh502:=of_decide_eq_true (e501.trans h502);have hz:=hln;have hk1:n503=k:=(by omega);have hk2:n503=n507:=(by omega);subst hk1;subst hk2;have hd:=zav s506 s510;rw [e511,show v511=true from (by simp_all)] at hd;have hlt:n503<l.length:=(List.getElem?_eq_some_iff.1 s506).1;have x3:v515=((n503+1:Nat):Int):=(by rw [← e515,hi,wri (by omega)];omega))
   ·show ((l.length:Int) - v515).toNat<((l.length:Int) - i).toNat
    omega
   ·exact ⟨n503+1,x3,by omega,by rw [hs,Bool.true_and] at hd;exact hd.symm⟩
 | false =>
  exfalso
  have dh502:=of_decide_eq_false (e501.trans h502);have hz:=hln;have hkl:k=l.length:=(by omega);rw [hkl,List.drop_length,hlm,List.drop_length,sameL] at hs;cases hs
theorem zmk {w0:World} (l:(List Xp)) (l2:(List Xp)) (N:Nat) (IH:z7 w0 N) (v1:Int) (v2:Int) (v3:Bool) (e1:((l.length:Int))=v1) (e2:((l2.length:Int))=v2) (e3:((v1 != v2))=v3) (h4:v3=true):Fun (KN w0) Tryz.prog 35 [.o (.c (pLs cE l)),.o (.c (pLs cE l2)),.o (.c ((fun v _ _=>∃cs:Array Value,v=.func (.func 16) #[] cs∧cs.toList=[])))] (.o (.c (pV (.bool false)))):=
 zk (zr (F:=FL [pLs cE l,pLs cE l2,pI v1,pI v2,pB v3] []) (C:=[(1000002,.op (.len [29] 3) [yh 0] [] (yh 2)),
  (1000004,.op (.len [29] 3) [yh 1] [] (yh 3)),
  (1000005,.bin .neq 3 (yh 2) (yh 3) (yh 4)),
  (10004,.fb 4 true)]) (k:=⟨35,[yh 0,yh 1,.o (.c (.q 16 []))],[],.o (.c (.k (.bool false))),[]⟩) 0 (zg ⟨(ze (zf rfl)),(ze (zf rfl)),za,za,za,trivial⟩) ⟨zF (E:=32) (by kernel_rfl) (zc rfl) (zb (by rw [← e1];rfl)),
  zF (E:=32) (by kernel_rfl) (zc rfl) (zb (by rw [← e2];rfl)),
  e_bin (zb rfl) (zb rfl) (zb rfl) (r_cmp (congrArg some e3)),
  e_fbv h4,
  trivial⟩ mixed (by kernel_rfl))
theorem zml {w0:World} (l:(List Xp)) (l2:(List Xp)) (N:Nat) (IH:z7 w0 N) (v1:Int) (v2:Int) (v3:Bool) (v5:Int) (o:Bool) (e1:((l.length:Int))=v1) (e2:((l2.length:Int))=v2) (e3:((v1 != v2))=v3) (e5:((l.length:Int))=v5) (h4:v3=false) (L_x_eqf_B:∀R:Frm,R.pm=⟨ntOf Tryz.prog 35,[],[]⟩→zi (KN w0) Tryz.prog (FL [pLs cE l,pLs cE l2,pI v1,pI v2,pB v3,pI v5,pB o] []) R za2 (lp Tryz.prog 35 0)):Fun (KN w0) Tryz.prog 35 [.o (.c (pLs cE l)),.o (.c (pLs cE l2)),.o (.c ((fun v _ _=>∃cs:Array Value,v=.func (.func 16) #[] cs∧cs.toList=[])))] (.o (.c (pB o))):=
 zk (zS (F:=FL [pLs cE l,pLs cE l2,pI v1,pI v2,pB v3,pI v5,pB o] []) (C:=[(1000002,.op (.len [29] 3) [yh 0] [] (yh 2)),
  (1000004,.op (.len [29] 3) [yh 1] [] (yh 3)),
  (1000005,.bin .neq 3 (yh 2) (yh 3) (yh 4)),
  (10004,.fb 4 false),
  (1000007,.op (.len [29] 3) [yh 0] [] (yh 5))]) (k:=⟨35,[yh 0,yh 1,.o (.c (.q 16 []))],[],yh 6,[]⟩) ⟨[za2],[],0⟩ [] 0 (zg ⟨(ze (zf rfl)),(ze (zf rfl)),za,za,za,za,za,trivial⟩) ⟨zF (E:=32) (by kernel_rfl) (zc rfl) (zb (by rw [← e1];rfl)),
  zF (E:=32) (by kernel_rfl) (zc rfl) (zb (by rw [← e2];rfl)),
  e_bin (zb rfl) (zb rfl) (zb rfl) (r_cmp (congrArg some e3)),
  e_fbv h4,
  zF (E:=32) (by kernel_rfl) (zc rfl) (zb (by rw [← e5];rfl)),
  trivial⟩ mixed trivial (fun R hR p hp s hs=>by
 have hl:zH (qu Tryz.prog 35)=[(4,lp Tryz.prog 35 0)]:=by kernel_rfl
 rw [hl] at hp
 simp only [List.mem_cons,List.not_mem_nil,or_false] at hp
 rcases hp with rfl
 ·have e:s=za2:=(Option.some.inj hs).symm
  subst e;exact L_x_eqf_B R hR) (by kernel_rfl))
theorem zmm {w0:World} (l:(List Xp)) (l2:(List Xp)) (N:Nat) (IH:z7 w0 N) (v1:Int) (v2:Int) (v3:Bool) (v5:Int) (e1:((l.length:Int))=v1) (e2:((l2.length:Int))=v2) (e3:((v1 != v2))=v3) (e5:((l.length:Int))=v5) (h4:v3=false) (L_x_eqf_A:∀R:Frm,R.pm=⟨ntOf Tryz.prog 35,[],[]⟩→zi (KN w0) Tryz.prog (FL [pLs cE l,pLs cE l2,pI v1,pI v2,pB v3,pI v5] []) R za1 (lp Tryz.prog 35 0)):Fun (KN w0) Tryz.prog 35 [.o (.c (pLs cE l)),.o (.c (pLs cE l2)),.o (.c ((fun v _ _=>∃cs:Array Value,v=.func (.func 16) #[] cs∧cs.toList=[])))] (.o (.c (pV (.bool true)))):=
 zk (zS (F:=FL [pLs cE l,pLs cE l2,pI v1,pI v2,pB v3,pI v5] []) (C:=[(1000002,.op (.len [29] 3) [yh 0] [] (yh 2)),
  (1000004,.op (.len [29] 3) [yh 1] [] (yh 3)),
  (1000005,.bin .neq 3 (yh 2) (yh 3) (yh 4)),
  (10004,.fb 4 false),
  (1000007,.op (.len [29] 3) [yh 0] [] (yh 5))]) (k:=⟨35,[yh 0,yh 1,.o (.c (.q 16 []))],[],.o (.c (.k (.bool true))),[]⟩) ⟨[za1],[],0⟩ [] 0 (zg ⟨(ze (zf rfl)),(ze (zf rfl)),za,za,za,za,trivial⟩) ⟨zF (E:=32) (by kernel_rfl) (zc rfl) (zb (by rw [← e1];rfl)),
  zF (E:=32) (by kernel_rfl) (zc rfl) (zb (by rw [← e2];rfl)),
  e_bin (zb rfl) (zb rfl) (zb rfl) (r_cmp (congrArg some e3)),
  e_fbv h4,
  zF (E:=32) (by kernel_rfl) (zc rfl) (zb (by rw [← e5];rfl)),
  trivial⟩ mixed trivial (fun R hR p hp s hs=>by
 have hl:zH (qu Tryz.prog 35)=[(4,lp Tryz.prog 35 0)]:=by kernel_rfl
 rw [hl] at hp
 simp only [List.mem_cons,List.not_mem_nil,or_false] at hp
 rcases hp with rfl
 ·have e:s=za1:=(Option.some.inj hs).symm
  subst e;exact L_x_eqf_A R hR) (by kernel_rfl))
theorem x_eqf {w0:World} {N:Nat} (IH:z7 w0 N) (l l2:List Xp) (r:Bool) (hr:sameL l l2=r) (hN:∀x∈l,nodes x≤N) (hb:l.length<9223372036854775808):Fun (KN w0) Tryz.prog 35 [.o (.c (pLs cE l)),.o (.c (pLs cE l2)),.o (.c ((fun v _ _=>∃cs:Array Value,v=.func (.func 16) #[] cs∧cs.toList=[])))] (.o (.c (pB r))):=by
 obtain ⟨v1,e1⟩:∃v,((l.length:Int))=v:=⟨_,rfl⟩
 obtain ⟨v2,e2⟩:∃v,((l2.length:Int))=v:=⟨_,rfl⟩
 obtain ⟨v3,e3⟩:∃v,((v1 != v2))=v:=⟨_,rfl⟩
 cases h4:v3 with
 | true =>
  refine Fun.imp (zmk l l2 N IH v1 v2 v3 e1 e2 e3 h4) (fun _ _ _ h=>h) (fun v W D h=>?_)
  have r0:r=false:=by
   have q:=bne_iff_ne.1 (e3.trans h4);rw [← hr];exact zfE (by omega)
  rw [r0];exact h
 | false =>
  obtain ⟨v5,e5⟩:∃v,((l.length:Int))=v:=⟨_,rfl⟩
  by_cases c4:sameL l l2=true
  ·
   refine Fun.imp (zmm l l2 N IH v1 v2 v3 v5 e1 e2 e3 e5 h4 (fun R hR=>ziA l l2 N v1 v2 v3 v5 IH  h4  rfl rfl rfl rfl rfl rfl R hR hb (by have q:=bne_eq_false_iff_eq.1 (e3.trans h4);omega) hN e5 c4)) (fun _ _ _ h=>h) (fun v W D h=>?_)
   have r0:r=true:=by
    rw [← hr];exact c4
   rw [r0];exact h
  ·
   obtain ⟨o,hO_x_eqf_B⟩:∃(o:Bool),false=o:=⟨_,rfl⟩
   refine Fun.imp (zml l l2 N IH v1 v2 v3 v5 o e1 e2 e3 e5 h4 (fun R hR=>ziC l l2 N v1 v2 v3 v5 IH  h4 o rfl rfl rfl rfl rfl rfl rfl R hR hb (by have q:=bne_eq_false_iff_eq.1 (e3.trans h4);omega) hN e5 (by simpa using c4) hO_x_eqf_B.symm)) (fun _ _ _ h=>h) (fun v W D h=>?_)
   have r0:r=o:=by
    rw [← hr,← hO_x_eqf_B];simpa using c4
   rw [r0];exact h
theorem zlw {w0:World} (a:Xp) (b:Xp) (N:Nat) (IH:z7 w0 N) (v1:Bool) (v3:Bool) (v5:Bool) (e1:((a.op == b.op))=v1) (e3:((a.n == b.n))=v3) (e5:(sameL a.l b.l)=v5) (h2:v1=true) (h4:v3=true) (s6:∀x∈a.l,nodes x≤N) (s7:a.l.length<9223372036854775808):Fun (KN w0) Tryz.prog 16 [.o (.g [pI a.op,pI a.n,pLs cE a.l]),.o (.g [pI b.op,pI b.n,pLs cE b.l])] (.o (.c (pB v5))):=
 zk (zr (F:=FL [pI a.op,pI a.n,pLs cE a.l,pI b.op,pI b.n,pLs cE b.l,pB v1,pB v3,pB v5] []) (C:=[(1000007,.bin .eql 3 (yh 0) (yh 3) (yh 6)),
  (10006,.fb 6 true),
  (1000013,.bin .eql 3 (yh 1) (yh 4) (yh 7)),
  (10007,.fb 7 true),
  (1000020,.call ⟨35,[yh 2,yh 5,.o (.c (.q 16 []))],[],yh 8,[]⟩)]) (k:=⟨16,[.o (.g [.h 0,.h 1,.h 2]),.o (.g [.h 3,.h 4,.h 5])],[],yh 8,[]⟩) 0 (zg ⟨za,za,(ze (zf rfl)),za,za,(ze (zf rfl)),za,za,za,trivial⟩) ⟨e_bin (zb rfl) (zb rfl) (zb rfl) (r_cmp (congrArg some e1)),
  e_fbv h2,
  e_bin (zb rfl) (zb rfl) (zb rfl) (r_cmp (congrArg some e3)),
  e_fbv h4,
  zh (x_eqf IH a.l b.l v5 e5 s6 s7),
  trivial⟩ mixed (by kernel_rfl))
theorem zlx {w0:World} (a:Xp) (b:Xp) (N:Nat) (IH:z7 w0 N) (v1:Bool) (v3:Bool) (e1:((a.op == b.op))=v1) (e3:((a.n == b.n))=v3) (h2:v1=true) (h4:v3=false):Fun (KN w0) Tryz.prog 16 [.o (.g [pI a.op,pI a.n,pLs cE a.l]),.o (.g [pI b.op,pI b.n,pLs cE b.l])] (.o (.c (pV (.bool false)))):=
 zk (zr (F:=FL [pI a.op,pI a.n,pLs cE a.l,pI b.op,pI b.n,pLs cE b.l,pB v1,pB v3] []) (C:=[(1000007,.bin .eql 3 (yh 0) (yh 3) (yh 6)),
  (10006,.fb 6 true),
  (1000013,.bin .eql 3 (yh 1) (yh 4) (yh 7)),
  (10007,.fb 7 false)]) (k:=⟨16,[.o (.g [.h 0,.h 1,.h 2]),.o (.g [.h 3,.h 4,.h 5])],[],.o (.c (.k (.bool false))),[]⟩) 0 (zg ⟨za,za,(ze (zf rfl)),za,za,(ze (zf rfl)),za,za,trivial⟩) ⟨e_bin (zb rfl) (zb rfl) (zb rfl) (r_cmp (congrArg some e1)),
  e_fbv h2,
  e_bin (zb rfl) (zb rfl) (zb rfl) (r_cmp (congrArg some e3)),
  e_fbv h4,
  trivial⟩ mixed (by kernel_rfl))
theorem zly {w0:World} (a:Xp) (b:Xp) (N:Nat) (IH:z7 w0 N) (v1:Bool) (e1:((a.op == b.op))=v1) (h2:v1=false):Fun (KN w0) Tryz.prog 16 [.o (.g [pI a.op,pI a.n,pLs cE a.l]),.o (.g [pI b.op,pI b.n,pLs cE b.l])] (.o (.c (pV (.bool false)))):=
 zk (zr (F:=FL [pI a.op,pI a.n,pLs cE a.l,pI b.op,pI b.n,pLs cE b.l,pB v1] []) (C:=[(1000007,.bin .eql 3 (yh 0) (yh 3) (yh 6)),
  (10006,.fb 6 false)]) (k:=⟨16,[.o (.g [.h 0,.h 1,.h 2]),.o (.g [.h 3,.h 4,.h 5])],[],.o (.c (.k (.bool false))),[]⟩) 0 (zg ⟨za,za,(ze (zf rfl)),za,za,(ze (zf rfl)),za,trivial⟩) ⟨e_bin (zb rfl) (zb rfl) (zb rfl) (r_cmp (congrArg some e1)),
  e_fbv h2,
  trivial⟩ mixed (by kernel_rfl))
theorem zmY {w0:World} {N:Nat} (IH:z7 w0 N) (a b:Xp) (r:Bool) (hr:sameX a b=r) (hN:nodes a≤N+1) (hN1:N+1≤1000000):Fun (KN w0) Tryz.prog 16 [.o (.g [pI a.op,pI a.n,pLs cE a.l]),.o (.g [pI b.op,pI b.n,pLs cE b.l])] (.o (.c (pB r))):=by
 obtain ⟨v1,e1⟩:∃v,((a.op == b.op))=v:=⟨_,rfl⟩
 cases h2:v1 with
 | true =>
  obtain ⟨v3,e3⟩:∃v,((a.n == b.n))=v:=⟨_,rfl⟩
  cases h4:v3 with
  | true =>
   obtain ⟨v5,e5⟩:∃v,(sameL a.l b.l)=v:=⟨_,rfl⟩
   have s6:∀x∈a.l,nodes x≤N:=by exact fun x hx=>by have:=zfw (e:=a) hx;omega
   have s7:a.l.length<9223372036854775808:=by (have:=qj a;omega)
   refine Fun.imp (zlw a b N IH v1 v3 v5 e1 e3 e5 h2 h4 s6 s7) (fun _ _ _ h=>h) (fun v W D h=>?_)
   have r0:r=v5:=by
    rw [← hr,zaL];simp_all
   rw [r0];exact h
  | false =>
   refine Fun.imp (zlx a b N IH v1 v3 e1 e3 h2 h4) (fun _ _ _ h=>h) (fun v W D h=>?_)
   have r0:r=false:=by
    rw [← hr,zaL];simp_all
   rw [r0];exact h
 | false =>
  refine Fun.imp (zly a b N IH v1 e1 h2) (fun _ _ _ h=>h) (fun v W D h=>?_)
  have r0:r=false:=by
   rw [← hr,zaL];simp_all
  rw [r0];exact h
structure x_rsame_A_T where
 i:Int
def zK:List Atom:=(.sl 0 (.o (.g [.h 0,.h 1,.h 2]))::.sl 1 (.o (.g [.h 3,.h 4,.h 5]))::.sl 2 (.o (.c (.p 0 0)))::.sl 3 (.o (.c (.p 1 0)))::.sl 5 (yh 11)::.sl 6 (.o (.c (.p 0 0)))::.sl 7 (yh 0)::.sl 8 (.o (.c (.p 1 0)))::.sl 9 (yh 3)::.sl 10 (yh 6)::.sl 11 (yh 6)::.sl 12 (.o (.c (.p 0 1)))::.sl 13 (yh 1)::.sl 14 (.o (.c (.p 1 1)))::.sl 15 (yh 4)::.sl 16 (yh 7)::.sl 17 (yh 7)::.sl 18 (yh 7)::.sl 19 (.o (.c (.p 0 2)))::.sl 20 (yh 2)::.sl 21 (yh 8)::.sl 22 (.o (.c (.p 1 2)))::.sl 23 (yh 5)::.sl 24 (yh 9)::.sl 25 (yh 10)::.sl 26 (yh 10)::.bx 0 32 [.h 0,.h 1,.h 2]::.bx 1 32 [.h 3,.h 4,.h 5]::[]:List Atom)
def zaj:LoopS:=⟨4,(.sl 0 (.o (.g [.h 0,.h 1,.h 2]))::.sl 1 (.o (.g [.h 3,.h 4,.h 5]))::.sl 2 (.o (.c (.p 0 0)))::.sl 3 (.o (.c (.p 1 0)))::.sl 5 (.o (.c (.k (.int .i64 0))))::.sl 6 (.o (.c (.p 0 0)))::.sl 7 (yh 0)::.sl 8 (.o (.c (.p 1 0)))::.sl 9 (yh 3)::.sl 10 (yh 6)::.sl 11 (yh 6)::.sl 12 (.o (.c (.p 0 1)))::.sl 13 (yh 1)::.sl 14 (.o (.c (.p 1 1)))::.sl 15 (yh 4)::.sl 16 (yh 7)::.sl 17 (yh 7)::.sl 18 (yh 7)::.sl 19 (.o (.c (.p 0 2)))::.sl 20 (yh 2)::.sl 21 (yh 8)::.sl 22 (.o (.c (.p 1 2)))::.sl 23 (yh 5)::.sl 24 (yh 9)::.sl 25 (yh 10)::.sl 26 (yh 10)::.bx 0 32 [.h 0,.h 1,.h 2]::.bx 1 32 [.h 3,.h 4,.h 5]::[]:List Atom),(.x 0),(.sl 0 (.o (.g [.h 0,.h 1,.h 2]))::.sl 1 (.o (.g [.h 3,.h 4,.h 5]))::.sl 2 (.o (.c (.p 0 0)))::.sl 3 (.o (.c (.p 1 0)))::.sl 6 (.o (.c (.p 0 0)))::.sl 7 (yh 0)::.sl 8 (.o (.c (.p 1 0)))::.sl 9 (yh 3)::.sl 10 (yh 6)::.sl 11 (yh 6)::.sl 12 (.o (.c (.p 0 1)))::.sl 13 (yh 1)::.sl 14 (.o (.c (.p 1 1)))::.sl 15 (yh 4)::.sl 16 (yh 7)::.sl 17 (yh 7)::.sl 18 (yh 7)::.sl 19 (.o (.c (.p 0 2)))::.sl 20 (yh 2)::.sl 21 (yh 8)::.sl 22 (.o (.c (.p 1 2)))::.sl 23 (yh 5)::.sl 24 (yh 9)::.sl 25 (yh 10)::.sl 26 (yh 10)::.bx 0 32 [.h 0,.h 1,.h 2]::.bx 1 32 [.h 3,.h 4,.h 5]::[]:List Atom)⟩
theorem zcR {w0:World} (a:Xp) (b:Xp) (N:Nat) (v1:Bool) (v3:Bool) (v5:Int) (v6:Int) (v7:Bool) (IH:zW w0 N) (h2:v1=false) (h4:v3=false) (h8:v7=false) (i:Int) (v501:Int) (v502:Bool) (n504:Nat) (x505:Xp) (n508:Nat) (x509:Xp) (v512:Bool) (v514:Bool) (v516:Int) (e501:((a.l.length:Int))=v501) (e502:(decide (i<v501))=v502) (e512:(sameX x505 x509)=v512) (e514:(!v512)=v514) (e516:(IntKind.i64.wrap (i+(1:Int)))=v516) (h503:v502=true) (s506:i=(n504:Int)) (s507:a.l[n504]?=some x505) (s510:i=(n508:Int)) (s511:b.l[n508]?=some x509) (s513:nodes x505≤N) (h515:v514=false) (i':Int) (q0:(v516)=i') (R:Frm) (hR:R.pm=⟨ntOf Tryz.prog 10,[],[]⟩):Goes (KN w0) Tryz.prog R (lp Tryz.prog 10 0) (FL [pI a.op,pI a.n,pLs cE a.l,pI b.op,pI b.n,pLs cE b.l,pB v1,pB v3,pI v5,pI v6,pB v7,pI i] []) zK .n (FL [pI a.op,pI a.n,pLs cE a.l,pI b.op,pI b.n,pLs cE b.l,pB v1,pB v3,pI v5,pI v6,pB v7,pI i'] []) zK:=
 goes (x:=.n) (y:=.n) (Fb:=FL [pI a.op,pI a.n,pLs cE a.l,pI b.op,pI b.n,pLs cE b.l,pB v1,pB v3,pI v5,pI v6,pB v7,pI i,pI v501,pB v502,pP (cE x505),pI x505.op,pI x505.n,pLs cE x505.l,pP (cE x509),pI x509.op,pI x509.n,pLs cE x509.l,pB v512,pB v514,pI v516] []) (stb:=zK) (tl:=(.sl 0 (.o (.g [.h 0,.h 1,.h 2]))::.sl 1 (.o (.g [.h 3,.h 4,.h 5]))::.sl 2 (.o (.c (.p 0 0)))::.sl 3 (.o (.c (.p 1 0)))::.sl 5 (yh 24)::.sl 6 (.o (.c (.p 0 0)))::.sl 7 (yh 0)::.sl 8 (.o (.c (.p 1 0)))::.sl 9 (yh 3)::.sl 10 (yh 6)::.sl 11 (yh 6)::.sl 12 (.o (.c (.p 0 1)))::.sl 13 (yh 1)::.sl 14 (.o (.c (.p 1 1)))::.sl 15 (yh 4)::.sl 16 (yh 7)::.sl 17 (yh 7)::.sl 18 (yh 7)::.sl 19 (.o (.c (.p 0 2)))::.sl 20 (yh 2)::.sl 21 (yh 8)::.sl 22 (.o (.c (.p 1 2)))::.sl 23 (yh 5)::.sl 24 (yh 9)::.sl 25 (yh 10)::.sl 26 (yh 10)::.bx 0 32 [.h 0,.h 1,.h 2]::.bx 1 32 [.h 3,.h 4,.h 5]::[]:List Atom)) (C:=((10006,.fb 6 false) ::
  (10007,.fb 7 false) ::
  (10010,.fb 10 false) ::
  (1005003,.op (.len [29] 3) [yh 2] [] (yh 12)) ::
  (1005004,.bin .lss 3 (yh 11) (yh 12) (yh 13)) ::
  (10013,.fb 13 true) ::
  (1005008,.op (.ia 29) [yh 2,yh 11] [] (yh 14)) ::
  (1005009,.op (.ld 32) [yh 14] [] (.o (.g [.h 15,.h 16,.h 17]))) ::
  (1005013,.op (.ia 29) [yh 5,yh 11] [] (yh 18)) ::
  (1005014,.op (.ld 32) [yh 18] [] (.o (.g [.h 19,.h 20,.h 21]))) ::
  (1005015,.call ⟨10,[.o (.g [.h 15,.h 16,.h 17]),.o (.g [.h 19,.h 20,.h 21])],[],yh 22,[]⟩) ::
  (1005016,.un .not (yh 22) (yh 23)) ::
  (10023,.fb 23 false) ::
  (1005018,.bin .add 3 (yh 11) (LF (.k (.int .i64 1))) (yh 24)) ::
  []:List (Nat×Ent))) (H:=.no) 5000 (zipA.imp ⟨z_g ⟨yy,yy,yy,trivial⟩,z_g ⟨yy,yy,yy,trivial⟩,z_c yy,z_c yy,z_c yy,z_c yy,z_c yy,z_c yy,z_c yy,z_c yy,z_c yy,z_c yy,z_c yy,z_c yy,z_c yy,z_c yy,z_c yy,z_c yy,z_c yy,z_c yy,z_c yy,z_c yy,z_c yy,z_c yy,z_c yy,z_c yy,z_b ⟨yy,yy,yy,trivial⟩,z_b ⟨yy,yy,yy,trivial⟩,trivial⟩) (zg ⟨za,za,(ze (zf rfl)),za,za,(ze (zf rfl)),za,za,za,za,za,za,za,za,(zl ((zf rfl) _)),za,za,(ze (zf rfl)),(zl ((zf rfl) _)),za,za,(ze (zf rfl)),za,za,za,trivial⟩) ⟨e_fbv h2,
  e_fbv h4,
  e_fbv h8,
  zF (E:=32) (by kernel_rfl) (zc rfl) (zb (by rw [← e501];rfl)),
  e_bin (zb rfl) (zb rfl) (zb rfl) (r_cmp (congrArg some e502)),
  e_fbv h503,
  e_iaL (E:=32) (z:=3) zj (by kernel_rfl) (by kernel_rfl) (zc rfl) (zb rfl) s506 s507 (zc rfl),
  e_ldG (by kernel_rfl) (by kernel_rfl) (zc rfl) (cE_eq _).symm rfl (zj _),
  e_iaL (E:=32) (z:=3) zj (by kernel_rfl) (by kernel_rfl) (zc rfl) (zb rfl) s510 s511 (zc rfl),
  e_ldG (by kernel_rfl) (by kernel_rfl) (zc rfl) (cE_eq _).symm rfl (zj _),
  zh (IH x505 x509 v512 e512 s513),
  e_un (zb rfl) (zb rfl) (fun W=>by rw [← e514];exact r_not W),
  e_fbv h515,
  e_bin (zb rfl) zd (zb rfl) (r_ar (congrArg some e516)),
  trivial⟩ mixed hR trivial (fun _ _ _ hs=>by cases hs) (by kernel_rfl:zA (KN w0) Tryz.prog _ .no ⟨ntOf Tryz.prog 10,[],[]⟩ (lp Tryz.prog 10 0) 5000 zK .n (.sl 0 (.o (.g [.h 0,.h 1,.h 2]))::.sl 1 (.o (.g [.h 3,.h 4,.h 5]))::.sl 2 (.o (.c (.p 0 0)))::.sl 3 (.o (.c (.p 1 0)))::.sl 5 (yh 24)::.sl 6 (.o (.c (.p 0 0)))::.sl 7 (yh 0)::.sl 8 (.o (.c (.p 1 0)))::.sl 9 (yh 3)::.sl 10 (yh 6)::.sl 11 (yh 6)::.sl 12 (.o (.c (.p 0 1)))::.sl 13 (yh 1)::.sl 14 (.o (.c (.p 1 1)))::.sl 15 (yh 4)::.sl 16 (yh 7)::.sl 17 (yh 7)::.sl 18 (yh 7)::.sl 19 (.o (.c (.p 0 2)))::.sl 20 (yh 2)::.sl 21 (yh 8)::.sl 22 (.o (.c (.p 1 2)))::.sl 23 (yh 5)::.sl 24 (yh 9)::.sl 25 (yh 10)::.sl 26 (yh 10)::.bx 0 32 [.h 0,.h 1,.h 2]::.bx 1 32 [.h 3,.h 4,.h 5]::[]:List Atom)=true) rfl (zipA.imp ⟨z_g ⟨yy,yy,yy,trivial⟩,z_g ⟨yy,yy,yy,trivial⟩,z_c yy,z_c yy,z_c (fun β v W h=>(zc rfl β v W).2 (by rw [← q0];exact h)),z_c yy,z_c yy,z_c yy,z_c yy,z_c yy,z_c yy,z_c yy,z_c yy,z_c yy,z_c yy,z_c yy,z_c yy,z_c yy,z_c yy,z_c yy,z_c yy,z_c yy,z_c yy,z_c yy,z_c yy,z_c yy,z_b ⟨yy,yy,yy,trivial⟩,z_b ⟨yy,yy,yy,trivial⟩,trivial⟩)
theorem zf7 {w0:World} (a:Xp) (b:Xp) (N:Nat) (v1:Bool) (v3:Bool) (v5:Int) (v6:Int) (v7:Bool) (IH:zW w0 N) (h2:v1=false) (h4:v3=false) (h8:v7=false) (i:Int) (v501:Int) (v502:Bool) (e501:((a.l.length:Int))=v501) (e502:(decide (i<v501))=v502) (h503:v502=false) (F:Fact) (u0:F.c 0=pI a.op) (u1:F.c 1=pI a.n) (u2:F.c 2=pLs cE a.l) (u3:F.c 3=pI b.op) (u4:F.c 4=pI b.n) (u5:F.c 5=pLs cE b.l) (u6:F.c 6=pB v1) (u7:F.c 7=pB v3) (u8:F.c 8=pI v5) (u9:F.c 9=pI v6) (u10:F.c 10=pB v7) (R:Frm) (hR:R.pm=⟨ntOf Tryz.prog 10,[],[]⟩):Goes (KN w0) Tryz.prog R (lp Tryz.prog 10 0) (FL [pI a.op,pI a.n,pLs cE a.l,pI b.op,pI b.n,pLs cE b.l,pB v1,pB v3,pI v5,pI v6,pB v7,pI i] []) zK (.x 0) F zaj.out:=
 goes (x:=(.x 0)) (y:=(.x 0)) (Fb:=FL [pI a.op,pI a.n,pLs cE a.l,pI b.op,pI b.n,pLs cE b.l,pB v1,pB v3,pI v5,pI v6,pB v7,pI i,pI v501,pB v502] []) (stb:=zK) (tl:=(.sl 0 (.o (.g [.h 0,.h 1,.h 2]))::.sl 1 (.o (.g [.h 3,.h 4,.h 5]))::.sl 2 (.o (.c (.p 0 0)))::.sl 3 (.o (.c (.p 1 0)))::.sl 6 (.o (.c (.p 0 0)))::.sl 7 (yh 0)::.sl 8 (.o (.c (.p 1 0)))::.sl 9 (yh 3)::.sl 10 (yh 6)::.sl 11 (yh 6)::.sl 12 (.o (.c (.p 0 1)))::.sl 13 (yh 1)::.sl 14 (.o (.c (.p 1 1)))::.sl 15 (yh 4)::.sl 16 (yh 7)::.sl 17 (yh 7)::.sl 18 (yh 7)::.sl 19 (.o (.c (.p 0 2)))::.sl 20 (yh 2)::.sl 21 (yh 8)::.sl 22 (.o (.c (.p 1 2)))::.sl 23 (yh 5)::.sl 24 (yh 9)::.sl 25 (yh 10)::.sl 26 (yh 10)::.bx 0 32 [.h 0,.h 1,.h 2]::.bx 1 32 [.h 3,.h 4,.h 5]::[]:List Atom)) (C:=((10006,.fb 6 false) ::
  (10007,.fb 7 false) ::
  (10010,.fb 10 false) ::
  (1005003,.op (.len [29] 3) [yh 2] [] (yh 12)) ::
  (1005004,.bin .lss 3 (yh 11) (yh 12) (yh 13)) ::
  (10013,.fb 13 false) ::
  []:List (Nat×Ent))) (H:=.no) 5000 (zipA.imp ⟨z_g ⟨yy,yy,yy,trivial⟩,z_g ⟨yy,yy,yy,trivial⟩,z_c yy,z_c yy,z_c yy,z_c yy,z_c yy,z_c yy,z_c yy,z_c yy,z_c yy,z_c yy,z_c yy,z_c yy,z_c yy,z_c yy,z_c yy,z_c yy,z_c yy,z_c yy,z_c yy,z_c yy,z_c yy,z_c yy,z_c yy,z_c yy,z_b ⟨yy,yy,yy,trivial⟩,z_b ⟨yy,yy,yy,trivial⟩,trivial⟩) (zg ⟨za,za,(ze (zf rfl)),za,za,(ze (zf rfl)),za,za,za,za,za,za,za,za,trivial⟩) ⟨e_fbv h2,
  e_fbv h4,
  e_fbv h8,
  zF (E:=32) (by kernel_rfl) (zc rfl) (zb (by rw [← e501];rfl)),
  e_bin (zb rfl) (zb rfl) (zb rfl) (r_cmp (congrArg some e502)),
  e_fbv h503,
  trivial⟩ mixed hR trivial (fun _ _ _ hs=>by cases hs) (by kernel_rfl:zA (KN w0) Tryz.prog _ .no ⟨ntOf Tryz.prog 10,[],[]⟩ (lp Tryz.prog 10 0) 5000 zK (.x 0) (.sl 0 (.o (.g [.h 0,.h 1,.h 2]))::.sl 1 (.o (.g [.h 3,.h 4,.h 5]))::.sl 2 (.o (.c (.p 0 0)))::.sl 3 (.o (.c (.p 1 0)))::.sl 6 (.o (.c (.p 0 0)))::.sl 7 (yh 0)::.sl 8 (.o (.c (.p 1 0)))::.sl 9 (yh 3)::.sl 10 (yh 6)::.sl 11 (yh 6)::.sl 12 (.o (.c (.p 0 1)))::.sl 13 (yh 1)::.sl 14 (.o (.c (.p 1 1)))::.sl 15 (yh 4)::.sl 16 (yh 7)::.sl 17 (yh 7)::.sl 18 (yh 7)::.sl 19 (.o (.c (.p 0 2)))::.sl 20 (yh 2)::.sl 21 (yh 8)::.sl 22 (.o (.c (.p 1 2)))::.sl 23 (yh 5)::.sl 24 (yh 9)::.sl 25 (yh 10)::.sl 26 (yh 10)::.bx 0 32 [.h 0,.h 1,.h 2]::.bx 1 32 [.h 3,.h 4,.h 5]::[]:List Atom)=true) rfl (zipA.imp ⟨z_g ⟨fun β v W h=>(zc u0 β v W).2 h,fun β v W h=>(zc u1 β v W).2 h,fun β v W h=>(zc u2 β v W).2 h,trivial⟩,z_g ⟨fun β v W h=>(zc u3 β v W).2 h,fun β v W h=>(zc u4 β v W).2 h,fun β v W h=>(zc u5 β v W).2 h,trivial⟩,z_c yy,z_c yy,z_c yy,z_c (fun β v W h=>(zc u0 β v W).2 h),z_c yy,z_c (fun β v W h=>(zc u3 β v W).2 h),z_c (fun β v W h=>(zc u6 β v W).2 h),z_c (fun β v W h=>(zc u6 β v W).2 h),z_c yy,z_c (fun β v W h=>(zc u1 β v W).2 h),z_c yy,z_c (fun β v W h=>(zc u4 β v W).2 h),z_c (fun β v W h=>(zc u7 β v W).2 h),z_c (fun β v W h=>(zc u7 β v W).2 h),z_c (fun β v W h=>(zc u7 β v W).2 h),z_c yy,z_c (fun β v W h=>(zc u2 β v W).2 h),z_c (fun β v W h=>(zc u8 β v W).2 h),z_c yy,z_c (fun β v W h=>(zc u5 β v W).2 h),z_c (fun β v W h=>(zc u9 β v W).2 h),z_c (fun β v W h=>(zc u10 β v W).2 h),z_c (fun β v W h=>(zc u10 β v W).2 h),z_b ⟨fun β v W h=>(zc u0 β v W).2 h,fun β v W h=>(zc u1 β v W).2 h,fun β v W h=>(zc u2 β v W).2 h,trivial⟩,z_b ⟨fun β v W h=>(zc u3 β v W).2 h,fun β v W h=>(zc u4 β v W).2 h,fun β v W h=>(zc u5 β v W).2 h,trivial⟩,trivial⟩)
def zg9 (a:Xp) (b:Xp) (N:Nat) (v1:Bool) (v3:Bool) (v5:Int) (v6:Int) (v7:Bool) (t:x_rsame_A_T):Prop:=(∃(v501:Int),∃(v502:Bool),(((a.l.length:Int))=v501)∧((decide (t.i<v501))=v502)∧(v502=false)∧True)
def zdD (a:Xp) (b:Xp) (N:Nat) (v1:Bool) (v3:Bool) (v5:Int) (v6:Int) (v7:Bool) (t t':x_rsame_A_T):Prop:=(∃(v501:Int),∃(v502:Bool),∃(n504:Nat),∃(x505:Xp),∃(n508:Nat),∃(x509:Xp),∃(v512:Bool),∃(v514:Bool),∃(v516:Int),(((a.l.length:Int))=v501)∧((decide (t.i<v501))=v502)∧((sameX x505 x509)=v512)∧((!v512)=v514)∧((IntKind.i64.wrap (t.i+(1:Int)))=v516)∧(v502=true)∧(t.i=(n504:Int))∧(a.l[n504]?=some x505)∧(t.i=(n508:Int))∧(b.l[n508]?=some x509)∧(nodes x505≤N)∧(v514=false)∧((v516)=t'.i)∧True)
theorem zdP {w0:World} (a:Xp) (b:Xp) (N:Nat) (v1:Bool) (v3:Bool) (v5:Int) (v6:Int) (v7:Bool) (IH:zW w0 N) (h2:v1=false) (h4:v3=false) (h8:v7=false) {F:Fact} (u0:F.c 0=pI a.op) (u1:F.c 1=pI a.n) (u2:F.c 2=pLs cE a.l) (u3:F.c 3=pI b.op) (u4:F.c 4=pI b.n) (u5:F.c 5=pLs cE b.l) (u6:F.c 6=pB v1) (u7:F.c 7=pB v3) (u8:F.c 8=pI v5) (u9:F.c 9=pI v6) (u10:F.c 10=pB v7) (R:Frm) (hR:R.pm=⟨ntOf Tryz.prog 10,[],[]⟩) (J:x_rsame_A_T→Prop) (m:x_rsame_A_T→Nat) (hJ:J { i:=(0:Int) }) (rounds:∀t,J t→zg9 a b N v1 v3 v5 v6 v7 t ∨∃t',zdD a b N v1 v3 v5 v6 v7 t t'∧m t'<m t∧J t'):zi (KN w0) Tryz.prog F R zaj (lp Tryz.prog 10 0):=by
 refine zB (T:=x_rsame_A_T) (fun t=>FL [pI a.op,pI a.n,pLs cE a.l,pI b.op,pI b.n,pLs cE b.l,pB v1,pB v3,pI v5,pI v6,pB v7,pI t.i] []) J m { i:=(0:Int) } zK hJ (zipA.imp ⟨z_g ⟨fun β v W h=>(zc u0 β v W).1 h,fun β v W h=>(zc u1 β v W).1 h,fun β v W h=>(zc u2 β v W).1 h,trivial⟩,z_g ⟨fun β v W h=>(zc u3 β v W).1 h,fun β v W h=>(zc u4 β v W).1 h,fun β v W h=>(zc u5 β v W).1 h,trivial⟩,z_c yy,z_c yy,z_c yy,z_c yy,z_c (fun β v W h=>(zc u0 β v W).1 h),z_c yy,z_c (fun β v W h=>(zc u3 β v W).1 h),z_c (fun β v W h=>(zc u6 β v W).1 h),z_c (fun β v W h=>(zc u6 β v W).1 h),z_c yy,z_c (fun β v W h=>(zc u1 β v W).1 h),z_c yy,z_c (fun β v W h=>(zc u4 β v W).1 h),z_c (fun β v W h=>(zc u7 β v W).1 h),z_c (fun β v W h=>(zc u7 β v W).1 h),z_c (fun β v W h=>(zc u7 β v W).1 h),z_c yy,z_c (fun β v W h=>(zc u2 β v W).1 h),z_c (fun β v W h=>(zc u8 β v W).1 h),z_c yy,z_c (fun β v W h=>(zc u5 β v W).1 h),z_c (fun β v W h=>(zc u9 β v W).1 h),z_c (fun β v W h=>(zc u10 β v W).1 h),z_c (fun β v W h=>(zc u10 β v W).1 h),z_b ⟨fun β v W h=>(zc u0 β v W).1 h,fun β v W h=>(zc u1 β v W).1 h,fun β v W h=>(zc u2 β v W).1 h,trivial⟩,z_b ⟨fun β v W h=>(zc u3 β v W).1 h,fun β v W h=>(zc u4 β v W).1 h,fun β v W h=>(zc u5 β v W).1 h,trivial⟩,trivial⟩) rfl fun t ht=>?_
 rcases rounds t ht with hz_ | ⟨t',hz_,hm_,hj_⟩
 ·refine .inl ?_
  rcases hz_ with ⟨v501,v502,e501,e502,h503,_⟩
  ·exact zf7  a b N v1 v3 v5 v6 v7 IH h2 h4 h8 t.i v501 v502 e501 e502 h503  F u0 u1 u2 u3 u4 u5 u6 u7 u8 u9 u10  R hR
 ·refine .inr ⟨t',hm_,hj_,?_⟩
  rcases hz_ with ⟨v501,v502,n504,x505,n508,x509,v512,v514,v516,e501,e502,e512,e514,e516,h503,s506,s507,s510,s511,s513,h515,q0,_⟩
  ·exact zcR  a b N v1 v3 v5 v6 v7 IH h2 h4 h8 t.i v501 v502 n504 x505 n508 x509 v512 v514 v516 e501 e502 e512 e514 e516 h503 s506 s507 s510 s511 s513 h515 t'.i q0 R hR
theorem zf6 {w0:World} (a:Xp) (b:Xp) (N:Nat) (v1:Bool) (v3:Bool) (v5:Int) (v6:Int) (v7:Bool) (IH:zW w0 N) (h2:v1=false) (h4:v3=false) (h8:v7=false) {F:Fact} (u0:F.c 0=pI a.op) (u1:F.c 1=pI a.n) (u2:F.c 2=pLs cE a.l) (u3:F.c 3=pI b.op) (u4:F.c 4=pI b.n) (u5:F.c 5=pLs cE b.l) (u6:F.c 6=pB v1) (u7:F.c 7=pB v3) (u8:F.c 8=pI v5) (u9:F.c 9=pI v6) (u10:F.c 10=pB v7) (R:Frm) (hR:R.pm=⟨ntOf Tryz.prog 10,[],[]⟩) (hb:a.l.length<9223372036854775808) (hlm:a.l.length=b.l.length) (hN:nodes a≤N+1) (hO:sameL a.l b.l=true):zi (KN w0) Tryz.prog F R zaj (lp Tryz.prog 10 0):=by
 refine zdP  a b N v1 v3 v5 v6 v7 IH h2 h4 h8  u0 u1 u2 u3 u4 u5 u6 u7 u8 u9 u10 R hR (fun ⟨i⟩=>∃k:Nat,i=(k:Int)∧k≤a.l.length∧sameL (a.l.drop k) (b.l.drop k)=true) (fun ⟨i⟩=>((a.l.length:Int) - i).toNat) ⟨0,rfl,Nat.zero_le _,by rw [List.drop_zero,List.drop_zero];exact hO⟩ fun t hJ=>?_
 obtain ⟨i⟩:=t
 dsimp only at hJ
 obtain ⟨k,hi,hk,hs⟩:=hJ
 obtain ⟨v501,e501⟩:∃v,((a.l.length:Int))=v:=⟨_,rfl⟩
 obtain ⟨v502,e502⟩:∃v,(decide (i<v501))=v:=⟨_,rfl⟩
 cases h503:v502 with
 | true =>
  obtain ⟨n504,x505,s506,s507⟩:∃(n504:Nat) (x505:Xp),i=(n504:Int)∧a.l[n504]?=some x505:=by (have dh503:=of_decide_eq_true (e502.trans h503);have hz:=e501;have hlt:k<a.l.length:=(by omega);exact ⟨k,_,hi,List.getElem?_eq_getElem hlt⟩)
  obtain ⟨n508,x509,s510,s511⟩:∃(n508:Nat) (x509:Xp),i=(n508:Int)∧b.l[n508]?=some x509:=by (have dh503:=of_decide_eq_true (e502.trans h503);have hz:=e501;have hlt:k<b.l.length:=(by omega);exact ⟨k,_,hi,List.getElem?_eq_getElem hlt⟩)
  obtain ⟨v512,e512⟩:∃v,(sameX x505 x509)=v:=⟨_,rfl⟩
  have s513:nodes x505≤N:=by exact zu hN s507
  obtain ⟨v514,e514⟩:∃v,(!v512)=v:=⟨_,rfl⟩
  cases h515:v514 with
  | true =>
   exfalso
   have dh503:=of_decide_eq_true (e502.trans h503);have hz:=e501;have hk1:n504=k:=(by omega);have hk2:n504=n508:=(by omega);subst hk1;subst hk2;have hd:=zav s507 s511;rw [e512,show v512=false from (by simp_all)] at hd;rw [hs] at hd;cases hd
  | false =>
   obtain ⟨v516,e516⟩:∃v,(IntKind.i64.wrap (i+(1:Int)))=v:=⟨_,rfl⟩
   refine .inr ⟨⟨v516⟩,⟨v501,v502,n504,x505,n508,x509,v512,v514,v516,e501,e502,e512,e514,e516,h503,s506,s507,s510,s511,s513,h515,rfl,trivial⟩,?_,?_⟩
   all_goals (have dh503:=of_decide_eq_true (e502.trans h503);have hz:=e501;have hk1:n504=k:=(by omega);have hk2:n504=n508:=(by omega);subst hk1;subst hk2;have hd:=zav s507 s511;rw [e512,show v512=true from (by simp_all)] at hd;have hlt:n504<a.l.length:=(List.getElem?_eq_some_iff.1 s507).1;have x3:v516=((n504+1:Nat):Int):=(by rw [← e516,hi,wri (by omega)];omega))
   ·show ((a.l.length:Int) - v516).toNat<((a.l.length:Int) - i).toNat
    omega
   ·exact ⟨n504+1,x3,by omega,by rw [hs,Bool.true_and] at hd;exact hd.symm⟩
 | false =>
  refine .inl (⟨v501,v502,e501,e502,h503,trivial⟩)
def zak:LoopS:=⟨4,(.sl 0 (.o (.g [.h 0,.h 1,.h 2]))::.sl 1 (.o (.g [.h 3,.h 4,.h 5]))::.sl 2 (.o (.c (.p 0 0)))::.sl 3 (.o (.c (.p 1 0)))::.sl 5 (.o (.c (.k (.int .i64 0))))::.sl 6 (.o (.c (.p 0 0)))::.sl 7 (yh 0)::.sl 8 (.o (.c (.p 1 0)))::.sl 9 (yh 3)::.sl 10 (yh 6)::.sl 11 (yh 6)::.sl 12 (.o (.c (.p 0 1)))::.sl 13 (yh 1)::.sl 14 (.o (.c (.p 1 1)))::.sl 15 (yh 4)::.sl 16 (yh 7)::.sl 17 (yh 7)::.sl 18 (yh 7)::.sl 19 (.o (.c (.p 0 2)))::.sl 20 (yh 2)::.sl 21 (yh 8)::.sl 22 (.o (.c (.p 1 2)))::.sl 23 (yh 5)::.sl 24 (yh 9)::.sl 25 (yh 10)::.sl 26 (yh 10)::.bx 0 32 [.h 0,.h 1,.h 2]::.bx 1 32 [.h 3,.h 4,.h 5]::[]:List Atom),.r,(.sl 0 (.o (.g [.h 0,.h 1,.h 2]))::.sl 1 (.o (.g [.h 3,.h 4,.h 5]))::.sl 2 (.o (.c (.p 0 0)))::.sl 3 (.o (.c (.p 1 0)))::.sl 4 (yh 11)::.sl 6 (.o (.c (.p 0 0)))::.sl 7 (yh 0)::.sl 8 (.o (.c (.p 1 0)))::.sl 9 (yh 3)::.sl 10 (yh 6)::.sl 11 (yh 6)::.sl 12 (.o (.c (.p 0 1)))::.sl 13 (yh 1)::.sl 14 (.o (.c (.p 1 1)))::.sl 15 (yh 4)::.sl 16 (yh 7)::.sl 17 (yh 7)::.sl 18 (yh 7)::.sl 19 (.o (.c (.p 0 2)))::.sl 20 (yh 2)::.sl 21 (yh 8)::.sl 22 (.o (.c (.p 1 2)))::.sl 23 (yh 5)::.sl 24 (yh 9)::.sl 25 (yh 10)::.sl 26 (yh 10)::.bx 0 32 [.h 0,.h 1,.h 2]::.bx 1 32 [.h 3,.h 4,.h 5]::[]:List Atom)⟩
theorem zf9 {w0:World} (a:Xp) (b:Xp) (N:Nat) (v1:Bool) (v3:Bool) (v5:Int) (v6:Int) (v7:Bool) (IH:zW w0 N) (h2:v1=false) (h4:v3=false) (h8:v7=false) (i:Int) (v501:Int) (v502:Bool) (n504:Nat) (x505:Xp) (n508:Nat) (x509:Xp) (v512:Bool) (v514:Bool) (e501:((a.l.length:Int))=v501) (e502:(decide (i<v501))=v502) (e512:(sameX x505 x509)=v512) (e514:(!v512)=v514) (h503:v502=true) (s506:i=(n504:Int)) (s507:a.l[n504]?=some x505) (s510:i=(n508:Int)) (s511:b.l[n508]?=some x509) (s513:nodes x505≤N) (h515:v514=true) (o:Bool) (F:Fact) (u0:F.c 0=pI a.op) (u1:F.c 1=pI a.n) (u2:F.c 2=pLs cE a.l) (u3:F.c 3=pI b.op) (u4:F.c 4=pI b.n) (u5:F.c 5=pLs cE b.l) (u6:F.c 6=pB v1) (u7:F.c 7=pB v3) (u8:F.c 8=pI v5) (u9:F.c 9=pI v6) (u10:F.c 10=pB v7) (u11:F.c 11=pB o) (q0:(false)=o) (R:Frm) (hR:R.pm=⟨ntOf Tryz.prog 10,[],[]⟩):Goes (KN w0) Tryz.prog R (lp Tryz.prog 10 0) (FL [pI a.op,pI a.n,pLs cE a.l,pI b.op,pI b.n,pLs cE b.l,pB v1,pB v3,pI v5,pI v6,pB v7,pI i] []) zK .r F zak.out:=
 goes (x:=.r) (y:=.r) (Fb:=FL [pI a.op,pI a.n,pLs cE a.l,pI b.op,pI b.n,pLs cE b.l,pB v1,pB v3,pI v5,pI v6,pB v7,pI i,pI v501,pB v502,pP (cE x505),pI x505.op,pI x505.n,pLs cE x505.l,pP (cE x509),pI x509.op,pI x509.n,pLs cE x509.l,pB v512,pB v514] []) (stb:=zK) (tl:=(.sl 0 (.o (.g [.h 0,.h 1,.h 2]))::.sl 1 (.o (.g [.h 3,.h 4,.h 5]))::.sl 2 (.o (.c (.p 0 0)))::.sl 3 (.o (.c (.p 1 0)))::.sl 4 (.o (.c (.k (.bool false))))::.sl 6 (.o (.c (.p 0 0)))::.sl 7 (yh 0)::.sl 8 (.o (.c (.p 1 0)))::.sl 9 (yh 3)::.sl 10 (yh 6)::.sl 11 (yh 6)::.sl 12 (.o (.c (.p 0 1)))::.sl 13 (yh 1)::.sl 14 (.o (.c (.p 1 1)))::.sl 15 (yh 4)::.sl 16 (yh 7)::.sl 17 (yh 7)::.sl 18 (yh 7)::.sl 19 (.o (.c (.p 0 2)))::.sl 20 (yh 2)::.sl 21 (yh 8)::.sl 22 (.o (.c (.p 1 2)))::.sl 23 (yh 5)::.sl 24 (yh 9)::.sl 25 (yh 10)::.sl 26 (yh 10)::.bx 0 32 [.h 0,.h 1,.h 2]::.bx 1 32 [.h 3,.h 4,.h 5]::[]:List Atom)) (C:=((10006,.fb 6 false) ::
  (10007,.fb 7 false) ::
  (10010,.fb 10 false) ::
  (1005003,.op (.len [29] 3) [yh 2] [] (yh 12)) ::
  (1005004,.bin .lss 3 (yh 11) (yh 12) (yh 13)) ::
  (10013,.fb 13 true) ::
  (1005008,.op (.ia 29) [yh 2,yh 11] [] (yh 14)) ::
  (1005009,.op (.ld 32) [yh 14] [] (.o (.g [.h 15,.h 16,.h 17]))) ::
  (1005013,.op (.ia 29) [yh 5,yh 11] [] (yh 18)) ::
  (1005014,.op (.ld 32) [yh 18] [] (.o (.g [.h 19,.h 20,.h 21]))) ::
  (1005015,.call ⟨10,[.o (.g [.h 15,.h 16,.h 17]),.o (.g [.h 19,.h 20,.h 21])],[],yh 22,[]⟩) ::
  (1005016,.un .not (yh 22) (yh 23)) ::
  (10023,.fb 23 true) ::
  []:List (Nat×Ent))) (H:=.no) 5000 (zipA.imp ⟨z_g ⟨yy,yy,yy,trivial⟩,z_g ⟨yy,yy,yy,trivial⟩,z_c yy,z_c yy,z_c yy,z_c yy,z_c yy,z_c yy,z_c yy,z_c yy,z_c yy,z_c yy,z_c yy,z_c yy,z_c yy,z_c yy,z_c yy,z_c yy,z_c yy,z_c yy,z_c yy,z_c yy,z_c yy,z_c yy,z_c yy,z_c yy,z_b ⟨yy,yy,yy,trivial⟩,z_b ⟨yy,yy,yy,trivial⟩,trivial⟩) (zg ⟨za,za,(ze (zf rfl)),za,za,(ze (zf rfl)),za,za,za,za,za,za,za,za,(zl ((zf rfl) _)),za,za,(ze (zf rfl)),(zl ((zf rfl) _)),za,za,(ze (zf rfl)),za,za,trivial⟩) ⟨e_fbv h2,
  e_fbv h4,
  e_fbv h8,
  zF (E:=32) (by kernel_rfl) (zc rfl) (zb (by rw [← e501];rfl)),
  e_bin (zb rfl) (zb rfl) (zb rfl) (r_cmp (congrArg some e502)),
  e_fbv h503,
  e_iaL (E:=32) (z:=3) zj (by kernel_rfl) (by kernel_rfl) (zc rfl) (zb rfl) s506 s507 (zc rfl),
  e_ldG (by kernel_rfl) (by kernel_rfl) (zc rfl) (cE_eq _).symm rfl (zj _),
  e_iaL (E:=32) (z:=3) zj (by kernel_rfl) (by kernel_rfl) (zc rfl) (zb rfl) s510 s511 (zc rfl),
  e_ldG (by kernel_rfl) (by kernel_rfl) (zc rfl) (cE_eq _).symm rfl (zj _),
  zh (IH x505 x509 v512 e512 s513),
  e_un (zb rfl) (zb rfl) (fun W=>by rw [← e514];exact r_not W),
  e_fbv h515,
  trivial⟩ mixed hR trivial (fun _ _ _ hs=>by cases hs) (by kernel_rfl:zA (KN w0) Tryz.prog _ .no ⟨ntOf Tryz.prog 10,[],[]⟩ (lp Tryz.prog 10 0) 5000 zK .r (.sl 0 (.o (.g [.h 0,.h 1,.h 2]))::.sl 1 (.o (.g [.h 3,.h 4,.h 5]))::.sl 2 (.o (.c (.p 0 0)))::.sl 3 (.o (.c (.p 1 0)))::.sl 4 (.o (.c (.k (.bool false))))::.sl 6 (.o (.c (.p 0 0)))::.sl 7 (yh 0)::.sl 8 (.o (.c (.p 1 0)))::.sl 9 (yh 3)::.sl 10 (yh 6)::.sl 11 (yh 6)::.sl 12 (.o (.c (.p 0 1)))::.sl 13 (yh 1)::.sl 14 (.o (.c (.p 1 1)))::.sl 15 (yh 4)::.sl 16 (yh 7)::.sl 17 (yh 7)::.sl 18 (yh 7)::.sl 19 (.o (.c (.p 0 2)))::.sl 20 (yh 2)::.sl 21 (yh 8)::.sl 22 (.o (.c (.p 1 2)))::.sl 23 (yh 5)::.sl 24 (yh 9)::.sl 25 (yh 10)::.sl 26 (yh 10)::.bx 0 32 [.h 0,.h 1,.h 2]::.bx 1 32 [.h 3,.h 4,.h 5]::[]:List Atom)=true) rfl (zipA.imp ⟨z_g ⟨fun β v W h=>(zc u0 β v W).2 h,fun β v W h=>(zc u1 β v W).2 h,fun β v W h=>(zc u2 β v W).2 h,trivial⟩,z_g ⟨fun β v W h=>(zc u3 β v W).2 h,fun β v W h=>(zc u4 β v W).2 h,fun β v W h=>(zc u5 β v W).2 h,trivial⟩,z_c yy,z_c yy,z_c (fun β v W h=>(zc u11 β v W).2 (by rw [← q0];exact h)),z_c yy,z_c (fun β v W h=>(zc u0 β v W).2 h),z_c yy,z_c (fun β v W h=>(zc u3 β v W).2 h),z_c (fun β v W h=>(zc u6 β v W).2 h),z_c (fun β v W h=>(zc u6 β v W).2 h),z_c yy,z_c (fun β v W h=>(zc u1 β v W).2 h),z_c yy,z_c (fun β v W h=>(zc u4 β v W).2 h),z_c (fun β v W h=>(zc u7 β v W).2 h),z_c (fun β v W h=>(zc u7 β v W).2 h),z_c (fun β v W h=>(zc u7 β v W).2 h),z_c yy,z_c (fun β v W h=>(zc u2 β v W).2 h),z_c (fun β v W h=>(zc u8 β v W).2 h),z_c yy,z_c (fun β v W h=>(zc u5 β v W).2 h),z_c (fun β v W h=>(zc u9 β v W).2 h),z_c (fun β v W h=>(zc u10 β v W).2 h),z_c (fun β v W h=>(zc u10 β v W).2 h),z_b ⟨fun β v W h=>(zc u0 β v W).2 h,fun β v W h=>(zc u1 β v W).2 h,fun β v W h=>(zc u2 β v W).2 h,trivial⟩,z_b ⟨fun β v W h=>(zc u3 β v W).2 h,fun β v W h=>(zc u4 β v W).2 h,fun β v W h=>(zc u5 β v W).2 h,trivial⟩,trivial⟩)
def zha (a:Xp) (b:Xp) (N:Nat) (v1:Bool) (v3:Bool) (v5:Int) (v6:Int) (v7:Bool) (t:x_rsame_A_T) (o:Bool):Prop:=(∃(v501:Int),∃(v502:Bool),∃(n504:Nat),∃(x505:Xp),∃(n508:Nat),∃(x509:Xp),∃(v512:Bool),∃(v514:Bool),(((a.l.length:Int))=v501)∧((decide (t.i<v501))=v502)∧((sameX x505 x509)=v512)∧((!v512)=v514)∧(v502=true)∧(t.i=(n504:Int))∧(a.l[n504]?=some x505)∧(t.i=(n508:Int))∧(b.l[n508]?=some x509)∧(nodes x505≤N)∧(v514=true)∧((false)=o)∧True)
theorem zdQ {w0:World} (a:Xp) (b:Xp) (N:Nat) (v1:Bool) (v3:Bool) (v5:Int) (v6:Int) (v7:Bool) (IH:zW w0 N) (h2:v1=false) (h4:v3=false) (h8:v7=false) (o:Bool) {F:Fact} (u0:F.c 0=pI a.op) (u1:F.c 1=pI a.n) (u2:F.c 2=pLs cE a.l) (u3:F.c 3=pI b.op) (u4:F.c 4=pI b.n) (u5:F.c 5=pLs cE b.l) (u6:F.c 6=pB v1) (u7:F.c 7=pB v3) (u8:F.c 8=pI v5) (u9:F.c 9=pI v6) (u10:F.c 10=pB v7) (u11:F.c 11=pB o) (R:Frm) (hR:R.pm=⟨ntOf Tryz.prog 10,[],[]⟩) (J:x_rsame_A_T→Prop) (m:x_rsame_A_T→Nat) (hJ:J { i:=(0:Int) }) (rounds:∀t,J t→zha a b N v1 v3 v5 v6 v7 t o∨∃t',zdD a b N v1 v3 v5 v6 v7 t t'∧m t'<m t∧J t'):zi (KN w0) Tryz.prog F R zak (lp Tryz.prog 10 0):=by
 refine zB (T:=x_rsame_A_T) (fun t=>FL [pI a.op,pI a.n,pLs cE a.l,pI b.op,pI b.n,pLs cE b.l,pB v1,pB v3,pI v5,pI v6,pB v7,pI t.i] []) J m { i:=(0:Int) } zK hJ (zipA.imp ⟨z_g ⟨fun β v W h=>(zc u0 β v W).1 h,fun β v W h=>(zc u1 β v W).1 h,fun β v W h=>(zc u2 β v W).1 h,trivial⟩,z_g ⟨fun β v W h=>(zc u3 β v W).1 h,fun β v W h=>(zc u4 β v W).1 h,fun β v W h=>(zc u5 β v W).1 h,trivial⟩,z_c yy,z_c yy,z_c yy,z_c yy,z_c (fun β v W h=>(zc u0 β v W).1 h),z_c yy,z_c (fun β v W h=>(zc u3 β v W).1 h),z_c (fun β v W h=>(zc u6 β v W).1 h),z_c (fun β v W h=>(zc u6 β v W).1 h),z_c yy,z_c (fun β v W h=>(zc u1 β v W).1 h),z_c yy,z_c (fun β v W h=>(zc u4 β v W).1 h),z_c (fun β v W h=>(zc u7 β v W).1 h),z_c (fun β v W h=>(zc u7 β v W).1 h),z_c (fun β v W h=>(zc u7 β v W).1 h),z_c yy,z_c (fun β v W h=>(zc u2 β v W).1 h),z_c (fun β v W h=>(zc u8 β v W).1 h),z_c yy,z_c (fun β v W h=>(zc u5 β v W).1 h),z_c (fun β v W h=>(zc u9 β v W).1 h),z_c (fun β v W h=>(zc u10 β v W).1 h),z_c (fun β v W h=>(zc u10 β v W).1 h),z_b ⟨fun β v W h=>(zc u0 β v W).1 h,fun β v W h=>(zc u1 β v W).1 h,fun β v W h=>(zc u2 β v W).1 h,trivial⟩,z_b ⟨fun β v W h=>(zc u3 β v W).1 h,fun β v W h=>(zc u4 β v W).1 h,fun β v W h=>(zc u5 β v W).1 h,trivial⟩,trivial⟩) rfl fun t ht=>?_
 rcases rounds t ht with hz_ | ⟨t',hz_,hm_,hj_⟩
 ·refine .inl ?_
  rcases hz_ with ⟨v501,v502,n504,x505,n508,x509,v512,v514,e501,e502,e512,e514,h503,s506,s507,s510,s511,s513,h515,q0,_⟩
  ·exact zf9  a b N v1 v3 v5 v6 v7 IH h2 h4 h8 t.i v501 v502 n504 x505 n508 x509 v512 v514 e501 e502 e512 e514 h503 s506 s507 s510 s511 s513 h515 o F u0 u1 u2 u3 u4 u5 u6 u7 u8 u9 u10 u11 q0 R hR
 ·refine .inr ⟨t',hm_,hj_,?_⟩
  rcases hz_ with ⟨v501,v502,n504,x505,n508,x509,v512,v514,v516,e501,e502,e512,e514,e516,h503,s506,s507,s510,s511,s513,h515,q0,_⟩
  ·exact zcR  a b N v1 v3 v5 v6 v7 IH h2 h4 h8 t.i v501 v502 n504 x505 n508 x509 v512 v514 v516 e501 e502 e512 e514 e516 h503 s506 s507 s510 s511 s513 h515 t'.i q0 R hR
theorem zf8 {w0:World} (a:Xp) (b:Xp) (N:Nat) (v1:Bool) (v3:Bool) (v5:Int) (v6:Int) (v7:Bool) (IH:zW w0 N) (h2:v1=false) (h4:v3=false) (h8:v7=false) (o:Bool) {F:Fact} (u0:F.c 0=pI a.op) (u1:F.c 1=pI a.n) (u2:F.c 2=pLs cE a.l) (u3:F.c 3=pI b.op) (u4:F.c 4=pI b.n) (u5:F.c 5=pLs cE b.l) (u6:F.c 6=pB v1) (u7:F.c 7=pB v3) (u8:F.c 8=pI v5) (u9:F.c 9=pI v6) (u10:F.c 10=pB v7) (u11:F.c 11=pB o) (R:Frm) (hR:R.pm=⟨ntOf Tryz.prog 10,[],[]⟩) (hb:a.l.length<9223372036854775808) (hlm:a.l.length=b.l.length) (hN:nodes a≤N+1) (hO:sameL a.l b.l=false) (ho:o=false):zi (KN w0) Tryz.prog F R zak (lp Tryz.prog 10 0):=by
 refine zdQ  a b N v1 v3 v5 v6 v7 IH h2 h4 h8 o u0 u1 u2 u3 u4 u5 u6 u7 u8 u9 u10 u11 R hR (fun ⟨i⟩=>∃k:Nat,i=(k:Int)∧k≤a.l.length∧sameL (a.l.drop k) (b.l.drop k)=false) (fun ⟨i⟩=>((a.l.length:Int) - i).toNat) ⟨0,rfl,Nat.zero_le _,by rw [List.drop_zero,List.drop_zero];exact hO⟩ fun t hJ=>?_
 obtain ⟨i⟩:=t
 dsimp only at hJ
 obtain ⟨k,hi,hk,hs⟩:=hJ
 obtain ⟨v501,e501⟩:∃v,((a.l.length:Int))=v:=⟨_,rfl⟩
 obtain ⟨v502,e502⟩:∃v,(decide (i<v501))=v:=⟨_,rfl⟩
 cases h503:v502 with
 | true =>
  obtain ⟨n504,x505,s506,s507⟩:∃(n504:Nat) (x505:Xp),i=(n504:Int)∧a.l[n504]?=some x505:=by (have dh503:=of_decide_eq_true (e502.trans h503);have hz:=e501;have hlt:k<a.l.length:=(by omega);exact ⟨k,_,hi,List.getElem?_eq_getElem hlt⟩)
  obtain ⟨n508,x509,s510,s511⟩:∃(n508:Nat) (x509:Xp),i=(n508:Int)∧b.l[n508]?=some x509:=by (have dh503:=of_decide_eq_true (e502.trans h503);have hz:=e501;have hlt:k<b.l.length:=(by omega);exact ⟨k,_,hi,List.getElem?_eq_getElem hlt⟩)
  obtain ⟨v512,e512⟩:∃v,(sameX x505 x509)=v:=⟨_,rfl⟩
  have s513:nodes x505≤N:=by exact zu hN s507
  obtain ⟨v514,e514⟩:∃v,(!v512)=v:=⟨_,rfl⟩
  cases h515:v514 with
  | true =>
   refine .inl (⟨v501,v502,n504,x505,n508,x509,v512,v514,e501,e502,e512,e514,h503,s506,s507,s510,s511,s513,h515,?_,trivial⟩)
   exact ho.symm
  | false =>
   obtain ⟨v516,e516⟩:∃v,(IntKind.i64.wrap (i+(1:Int)))=v:=⟨_,rfl⟩
   refine .inr ⟨⟨v516⟩,⟨v501,v502,n504,x505,n508,x509,v512,v514,v516,e501,e502,e512,e514,e516,h503,s506,s507,s510,s511,s513,h515,rfl,trivial⟩,?_,?_⟩
   all_goals (have dh503:=of_decide_eq_true (e502.trans h503);have hz:=e501;have hk1:n504=k:=(by omega);have hk2:n504=n508:=(by omega);subst hk1;subst hk2;have hd:=zav s507 s511;rw [e512,show v512=true from (by simp_all)] at hd;have hlt:n504<a.l.length:=(List.getElem?_eq_some_iff.1 s507).1;have x3:v516=((n504+1:Nat):Int):=(by rw [← e516,hi,wri (by omega)];omega))
   ·show ((a.l.length:Int) - v516).toNat<((a.l.length:Int) - i).toNat
    omega
   ·exact ⟨n504+1,x3,by omega,by rw [hs,Bool.true_and] at hd;exact hd.symm⟩
 | false =>
  exfalso
  have dh503:=of_decide_eq_false (e502.trans h503);have hz:=e501;have hkl:k=a.l.length:=(by omega);rw [hkl,List.drop_length,hlm,List.drop_length,sameL] at hs;cases hs
theorem ziY {w0:World} (a:Xp) (b:Xp) (N:Nat) (IH:zW w0 N) (v1:Bool) (e1:((a.op != b.op))=v1) (h2:v1=true):Fun (KN w0) Tryz.prog 10 [.o (.g [pI a.op,pI a.n,pLs cE a.l]),.o (.g [pI b.op,pI b.n,pLs cE b.l])] (.o (.c (pV (.bool false)))):=
 zk (zr (F:=FL [pI a.op,pI a.n,pLs cE a.l,pI b.op,pI b.n,pLs cE b.l,pB v1] []) (C:=[(1000007,.bin .neq 3 (yh 0) (yh 3) (yh 6)),
  (10006,.fb 6 true)]) (k:=⟨10,[.o (.g [.h 0,.h 1,.h 2]),.o (.g [.h 3,.h 4,.h 5])],[],.o (.c (.k (.bool false))),[]⟩) 0 (zg ⟨za,za,(ze (zf rfl)),za,za,(ze (zf rfl)),za,trivial⟩) ⟨e_bin (zb rfl) (zb rfl) (zb rfl) (r_cmp (congrArg some e1)),
  e_fbv h2,
  trivial⟩ mixed (by kernel_rfl))
theorem ziZ {w0:World} (a:Xp) (b:Xp) (N:Nat) (IH:zW w0 N) (v1:Bool) (v3:Bool) (e1:((a.op != b.op))=v1) (e3:((a.n != b.n))=v3) (h2:v1=false) (h4:v3=true):Fun (KN w0) Tryz.prog 10 [.o (.g [pI a.op,pI a.n,pLs cE a.l]),.o (.g [pI b.op,pI b.n,pLs cE b.l])] (.o (.c (pV (.bool false)))):=
 zk (zr (F:=FL [pI a.op,pI a.n,pLs cE a.l,pI b.op,pI b.n,pLs cE b.l,pB v1,pB v3] []) (C:=[(1000007,.bin .neq 3 (yh 0) (yh 3) (yh 6)),
  (10006,.fb 6 false),
  (1000013,.bin .neq 3 (yh 1) (yh 4) (yh 7)),
  (10007,.fb 7 true)]) (k:=⟨10,[.o (.g [.h 0,.h 1,.h 2]),.o (.g [.h 3,.h 4,.h 5])],[],.o (.c (.k (.bool false))),[]⟩) 0 (zg ⟨za,za,(ze (zf rfl)),za,za,(ze (zf rfl)),za,za,trivial⟩) ⟨e_bin (zb rfl) (zb rfl) (zb rfl) (r_cmp (congrArg some e1)),
  e_fbv h2,
  e_bin (zb rfl) (zb rfl) (zb rfl) (r_cmp (congrArg some e3)),
  e_fbv h4,
  trivial⟩ mixed (by kernel_rfl))
theorem zi0 {w0:World} (a:Xp) (b:Xp) (N:Nat) (IH:zW w0 N) (v1:Bool) (v3:Bool) (v5:Int) (v6:Int) (v7:Bool) (e1:((a.op != b.op))=v1) (e3:((a.n != b.n))=v3) (e5:((a.l.length:Int))=v5) (e6:((b.l.length:Int))=v6) (e7:((v5 != v6))=v7) (h2:v1=false) (h4:v3=false) (h8:v7=true):Fun (KN w0) Tryz.prog 10 [.o (.g [pI a.op,pI a.n,pLs cE a.l]),.o (.g [pI b.op,pI b.n,pLs cE b.l])] (.o (.c (pV (.bool false)))):=
 zk (zr (F:=FL [pI a.op,pI a.n,pLs cE a.l,pI b.op,pI b.n,pLs cE b.l,pB v1,pB v3,pI v5,pI v6,pB v7] []) (C:=[(1000007,.bin .neq 3 (yh 0) (yh 3) (yh 6)),
  (10006,.fb 6 false),
  (1000013,.bin .neq 3 (yh 1) (yh 4) (yh 7)),
  (10007,.fb 7 false),
  (1000018,.op (.len [29] 3) [yh 2] [] (yh 8)),
  (1000021,.op (.len [29] 3) [yh 5] [] (yh 9)),
  (1000022,.bin .neq 3 (yh 8) (yh 9) (yh 10)),
  (10010,.fb 10 true)]) (k:=⟨10,[.o (.g [.h 0,.h 1,.h 2]),.o (.g [.h 3,.h 4,.h 5])],[],.o (.c (.k (.bool false))),[]⟩) 0 (zg ⟨za,za,(ze (zf rfl)),za,za,(ze (zf rfl)),za,za,za,za,za,trivial⟩) ⟨e_bin (zb rfl) (zb rfl) (zb rfl) (r_cmp (congrArg some e1)),
  e_fbv h2,
  e_bin (zb rfl) (zb rfl) (zb rfl) (r_cmp (congrArg some e3)),
  e_fbv h4,
  zF (E:=32) (by kernel_rfl) (zc rfl) (zb (by rw [← e5];rfl)),
  zF (E:=32) (by kernel_rfl) (zc rfl) (zb (by rw [← e6];rfl)),
  e_bin (zb rfl) (zb rfl) (zb rfl) (r_cmp (congrArg some e7)),
  e_fbv h8,
  trivial⟩ mixed (by kernel_rfl))
theorem zi1 {w0:World} (a:Xp) (b:Xp) (N:Nat) (IH:zW w0 N) (v1:Bool) (v3:Bool) (v5:Int) (v6:Int) (v7:Bool) (o:Bool) (e1:((a.op != b.op))=v1) (e3:((a.n != b.n))=v3) (e5:((a.l.length:Int))=v5) (e6:((b.l.length:Int))=v6) (e7:((v5 != v6))=v7) (h2:v1=false) (h4:v3=false) (h8:v7=false) (L_x_rsame_B:∀R:Frm,R.pm=⟨ntOf Tryz.prog 10,[],[]⟩→zi (KN w0) Tryz.prog (FL [pI a.op,pI a.n,pLs cE a.l,pI b.op,pI b.n,pLs cE b.l,pB v1,pB v3,pI v5,pI v6,pB v7,pB o] []) R zak (lp Tryz.prog 10 0)):Fun (KN w0) Tryz.prog 10 [.o (.g [pI a.op,pI a.n,pLs cE a.l]),.o (.g [pI b.op,pI b.n,pLs cE b.l])] (.o (.c (pB o))):=
 zk (zS (F:=FL [pI a.op,pI a.n,pLs cE a.l,pI b.op,pI b.n,pLs cE b.l,pB v1,pB v3,pI v5,pI v6,pB v7,pB o] []) (C:=[(1000007,.bin .neq 3 (yh 0) (yh 3) (yh 6)),
  (10006,.fb 6 false),
  (1000013,.bin .neq 3 (yh 1) (yh 4) (yh 7)),
  (10007,.fb 7 false),
  (1000018,.op (.len [29] 3) [yh 2] [] (yh 8)),
  (1000021,.op (.len [29] 3) [yh 5] [] (yh 9)),
  (1000022,.bin .neq 3 (yh 8) (yh 9) (yh 10)),
  (10010,.fb 10 false)]) (k:=⟨10,[.o (.g [.h 0,.h 1,.h 2]),.o (.g [.h 3,.h 4,.h 5])],[],yh 11,[]⟩) ⟨[zak],[],0⟩ [] 0 (zg ⟨za,za,(ze (zf rfl)),za,za,(ze (zf rfl)),za,za,za,za,za,za,trivial⟩) ⟨e_bin (zb rfl) (zb rfl) (zb rfl) (r_cmp (congrArg some e1)),
  e_fbv h2,
  e_bin (zb rfl) (zb rfl) (zb rfl) (r_cmp (congrArg some e3)),
  e_fbv h4,
  zF (E:=32) (by kernel_rfl) (zc rfl) (zb (by rw [← e5];rfl)),
  zF (E:=32) (by kernel_rfl) (zc rfl) (zb (by rw [← e6];rfl)),
  e_bin (zb rfl) (zb rfl) (zb rfl) (r_cmp (congrArg some e7)),
  e_fbv h8,
  trivial⟩ mixed trivial (fun R hR p hp s hs=>by
 have hl:zH (qu Tryz.prog 10)=[(4,lp Tryz.prog 10 0)]:=by kernel_rfl
 rw [hl] at hp
 simp only [List.mem_cons,List.not_mem_nil,or_false] at hp
 rcases hp with rfl
 ·have e:s=zak:=(Option.some.inj hs).symm
  subst e;exact L_x_rsame_B R hR) (by kernel_rfl))
theorem zi2 {w0:World} (a:Xp) (b:Xp) (N:Nat) (IH:zW w0 N) (v1:Bool) (v3:Bool) (v5:Int) (v6:Int) (v7:Bool) (e1:((a.op != b.op))=v1) (e3:((a.n != b.n))=v3) (e5:((a.l.length:Int))=v5) (e6:((b.l.length:Int))=v6) (e7:((v5 != v6))=v7) (h2:v1=false) (h4:v3=false) (h8:v7=false) (L_x_rsame_A:∀R:Frm,R.pm=⟨ntOf Tryz.prog 10,[],[]⟩→zi (KN w0) Tryz.prog (FL [pI a.op,pI a.n,pLs cE a.l,pI b.op,pI b.n,pLs cE b.l,pB v1,pB v3,pI v5,pI v6,pB v7] []) R zaj (lp Tryz.prog 10 0)):Fun (KN w0) Tryz.prog 10 [.o (.g [pI a.op,pI a.n,pLs cE a.l]),.o (.g [pI b.op,pI b.n,pLs cE b.l])] (.o (.c (pV (.bool true)))):=
 zk (zS (F:=FL [pI a.op,pI a.n,pLs cE a.l,pI b.op,pI b.n,pLs cE b.l,pB v1,pB v3,pI v5,pI v6,pB v7] []) (C:=[(1000007,.bin .neq 3 (yh 0) (yh 3) (yh 6)),
  (10006,.fb 6 false),
  (1000013,.bin .neq 3 (yh 1) (yh 4) (yh 7)),
  (10007,.fb 7 false),
  (1000018,.op (.len [29] 3) [yh 2] [] (yh 8)),
  (1000021,.op (.len [29] 3) [yh 5] [] (yh 9)),
  (1000022,.bin .neq 3 (yh 8) (yh 9) (yh 10)),
  (10010,.fb 10 false)]) (k:=⟨10,[.o (.g [.h 0,.h 1,.h 2]),.o (.g [.h 3,.h 4,.h 5])],[],.o (.c (.k (.bool true))),[]⟩) ⟨[zaj],[],0⟩ [] 0 (zg ⟨za,za,(ze (zf rfl)),za,za,(ze (zf rfl)),za,za,za,za,za,trivial⟩) ⟨e_bin (zb rfl) (zb rfl) (zb rfl) (r_cmp (congrArg some e1)),
  e_fbv h2,
  e_bin (zb rfl) (zb rfl) (zb rfl) (r_cmp (congrArg some e3)),
  e_fbv h4,
  zF (E:=32) (by kernel_rfl) (zc rfl) (zb (by rw [← e5];rfl)),
  zF (E:=32) (by kernel_rfl) (zc rfl) (zb (by rw [← e6];rfl)),
  e_bin (zb rfl) (zb rfl) (zb rfl) (r_cmp (congrArg some e7)),
  e_fbv h8,
  trivial⟩ mixed trivial (fun R hR p hp s hs=>by
 have hl:zH (qu Tryz.prog 10)=[(4,lp Tryz.prog 10 0)]:=by kernel_rfl
 rw [hl] at hp
 simp only [List.mem_cons,List.not_mem_nil,or_false] at hp
 rcases hp with rfl
 ·have e:s=zaj:=(Option.some.inj hs).symm
  subst e;exact L_x_rsame_A R hR) (by kernel_rfl))
theorem zls {w0:World} {N:Nat} (IH:zW w0 N) (a b:Xp) (r:Bool) (hr:sameX a b=r) (hN:nodes a≤N+1) (hN1:N+1≤1000000):Fun (KN w0) Tryz.prog 10 [.o (.g [pI a.op,pI a.n,pLs cE a.l]),.o (.g [pI b.op,pI b.n,pLs cE b.l])] (.o (.c (pB r))):=by
 obtain ⟨v1,e1⟩:∃v,((a.op != b.op))=v:=⟨_,rfl⟩
 cases h2:v1 with
 | true =>
  refine Fun.imp (ziY a b N IH v1 e1 h2) (fun _ _ _ h=>h) (fun v W D h=>?_)
  have r0:r=false:=by
   (have dh2:=bne_iff_ne.1 (e1.trans h2);rw [← hr,zaL];simp_all)
  rw [r0];exact h
 | false =>
  obtain ⟨v3,e3⟩:∃v,((a.n != b.n))=v:=⟨_,rfl⟩
  cases h4:v3 with
  | true =>
   refine Fun.imp (ziZ a b N IH v1 v3 e1 e3 h2 h4) (fun _ _ _ h=>h) (fun v W D h=>?_)
   have r0:r=false:=by
    (have dh2:=bne_eq_false_iff_eq.1 (e1.trans h2);have dh4:=bne_iff_ne.1 (e3.trans h4);rw [← hr,zaL];simp_all)
   rw [r0];exact h
  | false =>
   obtain ⟨v5,e5⟩:∃v,((a.l.length:Int))=v:=⟨_,rfl⟩
   obtain ⟨v6,e6⟩:∃v,((b.l.length:Int))=v:=⟨_,rfl⟩
   obtain ⟨v7,e7⟩:∃v,((v5 != v6))=v:=⟨_,rfl⟩
   cases h8:v7 with
   | true =>
    refine Fun.imp (zi0 a b N IH v1 v3 v5 v6 v7 e1 e3 e5 e6 e7 h2 h4 h8) (fun _ _ _ h=>h) (fun v W D h=>?_)
    have r0:r=false:=by
     (have dh2:=bne_eq_false_iff_eq.1 (e1.trans h2);have dh4:=bne_eq_false_iff_eq.1 (e3.trans h4);have dh8:=bne_iff_ne.1 (e7.trans h8);rw [← hr,zaL,zfE (l:=a.l) (m:=b.l) (by omega),Bool.and_false])
    rw [r0];exact h
   | false =>
    by_cases c4:sameL a.l b.l=true
    ·
     refine Fun.imp (zi2 a b N IH v1 v3 v5 v6 v7 e1 e3 e5 e6 e7 h2 h4 h8 (fun R hR=>zf6 a b N v1 v3 v5 v6 v7 IH  h2 h4 h8  rfl rfl rfl rfl rfl rfl rfl rfl rfl rfl rfl R hR (by have:=qj a;omega) (by have q:=bne_eq_false_iff_eq.1 (e7.trans h8);omega) hN c4)) (fun _ _ _ h=>h) (fun v W D h=>?_)
     have r0:r=true:=by
      (have dh2:=bne_eq_false_iff_eq.1 (e1.trans h2);have dh4:=bne_eq_false_iff_eq.1 (e3.trans h4);have dh8:=bne_eq_false_iff_eq.1 (e7.trans h8);rw [← hr,zaL];simp_all)
     rw [r0];exact h
    ·
     obtain ⟨o,hO_x_rsame_B⟩:∃(o:Bool),false=o:=⟨_,rfl⟩
     refine Fun.imp (zi1 a b N IH v1 v3 v5 v6 v7 o e1 e3 e5 e6 e7 h2 h4 h8 (fun R hR=>zf8 a b N v1 v3 v5 v6 v7 IH  h2 h4 h8 o rfl rfl rfl rfl rfl rfl rfl rfl rfl rfl rfl rfl R hR (by have:=qj a;omega) (by have q:=bne_eq_false_iff_eq.1 (e7.trans h8);omega) hN (by simpa using c4) hO_x_rsame_B.symm)) (fun _ _ _ h=>h) (fun v W D h=>?_)
     have r0:r=o:=by
      (have dh2:=bne_eq_false_iff_eq.1 (e1.trans h2);have dh4:=bne_eq_false_iff_eq.1 (e3.trans h4);have dh8:=bne_eq_false_iff_eq.1 (e7.trans h8);rw [← hr,zaL];simp_all)
     rw [r0];exact h
theorem zen {w0:World}:∀N:Nat,N≤1000000→z7 w0 N
 | 0,_=>fun x y v _ h=>by have:=qk x;omega
 | N+1,hN=>fun x y v hv h=>zmY (zen N (by omega)) x y v hv h hN
theorem znt {w0:World} (x y:Xp) (v:Bool) (hv:sameX x y=v) (hn:nodes x≤1000000):Fun (KN w0) Tryz.prog 16 [.o (.g [pI x.op,pI x.n,pLs cE x.l]),.o (.g [pI y.op,pI y.n,pLs cE y.l])] (.o (.c (pB v))):=zen (nodes x) hn x y v hv (Nat.le_refl _)
theorem zdE {w0:World}:∀N:Nat,N≤1000000→zW w0 N
 | 0,_=>fun x y v _ h=>by have:=qk x;omega
 | N+1,hN=>fun x y v hv h=>zls (zdE N (by omega)) x y v hv h hN
theorem zbV {w0:World} (x y:Xp) (v:Bool) (hv:sameX x y=v) (hn:nodes x≤1000000):Fun (KN w0) Tryz.prog 10 [.o (.g [pI x.op,pI x.n,pLs cE x.l]),.o (.g [pI y.op,pI y.n,pLs cE y.l])] (.o (.c (pB v))):=zdE (nodes x) hn x y v hv (Nat.le_refl _)
end Go.Proofs.YtdkofaajcpcjkaaGreatDoor
namespace Go.Proofs.YtdkofaajcpcjkaaGreatDoor
open Go.RowKit
theorem zdI {v:Value} {W:World} {D:Dat} (h:(PSh.o (.g [pV (.int .i64 0),pV (.int .i64 0),pV (.slice none 0 0)])).ok v W D):(PSh.o (.g [pI X0.op,pI X0.n,pLs cE X0.l])).ok v W D:=by
 obtain ⟨vs,e,h⟩:=h
 refine ⟨vs,e,?_⟩
 match vs.toList,h with
 | [x,y,z],⟨h3,h4,h5,_⟩=>exact ⟨h3,h4,zbP _ _ _ h5,trivial⟩
theorem zlF {v:Value} {W:World} {D:Dat} (h:(PSh.o (.c (pV (.slice none 0 0)))).ok v W D):(PSh.o (.c (pLs cI []))).ok v W D:=.inl ⟨⟨none,0,h⟩,rfl,rfl⟩
theorem zhJ {p q:Pred}:∀v W D,(PSh.o (.g [p,q,pV (.slice none 0 0)])).ok v W D→(PSh.o (.g [p,q,pLs cE ([]:List Xp)])).ok v W D:=fun v W D ⟨vs,e,h⟩=>⟨vs,e,by
 match vs.toList,h with
 | [a,b,c],⟨h1,h2,h3,_⟩=>exact ⟨h1,h2,zbP _ _ _ h3,trivial⟩⟩
theorem zox {w0:World} (n:Int):Fun (KN w0) Tryz.prog 13 [.o (.c (pI n))] (.o (.g [pV (.int .i64 1),pI n,pV (.slice none 0 0)])):=
 zk (zr (F:=FL [pI n] []) (C:=[]) (k:=⟨13,[yh 0],[],.o (.g [.k (.int .i64 1),.h 0,.k (.slice none 0 0)]),[]⟩) 0 (zg ⟨za,trivial⟩) trivial mixed (by kernel_rfl))
theorem x_num {w0:World} (n:Int) (e:Xp) (he:Xp.mk 1 n []=e):Fun (KN w0) Tryz.prog 13 [.o (.c (pI n))] (.o (.g [pI e.op,pI e.n,pLs cE e.l])):=by
 subst he;exact Fun.imp (zox n) (fun _ _ _ h=>h) zhJ
theorem zor {w0:World} (n:Int):Fun (KN w0) Tryz.prog 12 [.o (.c (pI n))] (.o (.g [pV (.int .i64 2),pI n,pV (.slice none 0 0)])):=
 zk (zr (F:=FL [pI n] []) (C:=[]) (k:=⟨12,[yh 0],[],.o (.g [.k (.int .i64 2),.h 0,.k (.slice none 0 0)]),[]⟩) 0 (zg ⟨za,trivial⟩) trivial mixed (by kernel_rfl))
theorem x_arg {w0:World} (n:Int) (e:Xp) (he:Xp.mk 2 n []=e):Fun (KN w0) Tryz.prog 12 [.o (.c (pI n))] (.o (.g [pI e.op,pI e.n,pLs cE e.l])):=by
 subst he;exact Fun.imp (zor n) (fun _ _ _ h=>h) zhJ
theorem zoJ {w0:World} (o:Int) (a:Xp) (b:Xp) (v1:(List Xp)) (e1:(([a,b]:List Xp))=v1):Fun (KN w0) Tryz.prog 11 [.o (.c (pI o)),.o (.g [pI a.op,pI a.n,pLs cE a.l]),.o (.g [pI b.op,pI b.n,pLs cE b.l])] (.o (.g [pI o,pV (.int .i64 0),pLs cE v1])):=
 zk (zr (F:=FL [pI o,pI a.op,pI a.n,pLs cE a.l,pI b.op,pI b.n,pLs cE b.l,pLs cE v1] []) (C:=[(1000006,.dat 32 2 [.h 1,.h 2,.h 3,.h 4,.h 5,.h 6] 7)]) (k:=⟨11,[yh 0,.o (.g [.h 1,.h 2,.h 3]),.o (.g [.h 4,.h 5,.h 6])],[],.o (.g [.h 0,.k (.int .i64 0),.h 7]),[]⟩) 0 (zg ⟨za,za,za,(ze (zf rfl)),za,za,(ze (zf rfl)),(ze (zf rfl)),trivial⟩) ⟨e_dat (c:=cE) (ps:=(pI a.op::pI a.n::pLs cE a.l::pI b.op::pI b.n::pLs cE b.l::[])) (qs:=(pI a.op::pI a.n::pLs cE a.l::pI b.op::pI b.n::pLs cE b.l::[])) (by rw [← e1];rfl) rfl rfl ((flatE _).trans rfl) (pimps (fun _ _ _ h=>h) <| pimps (fun _ _ _ h=>h) <| pimps (fun _ _ _ h=>h) <| pimps (fun _ _ _ h=>h) <| pimps (fun _ _ _ h=>h) <| pimps (fun _ _ _ h=>h) <| qo) rfl,
  trivial⟩ mixed (by kernel_rfl))
theorem x_opL {w0:World} (o:Int) (a b:Xp) (e:Xp) (he:Xp.mk o 0 [a,b]=e):Fun (KN w0) Tryz.prog 11 [.o (.c (pI o)),.o (.g [pI a.op,pI a.n,pLs cE a.l]),.o (.g [pI b.op,pI b.n,pLs cE b.l])] (.o (.g [pI e.op,pI e.n,pLs cE e.l])):=by
 subst he;exact zoJ o a b _ rfl
theorem zmo {w0:World} (e:Xp) (w:Int) (l:(List Int)) (v1:Int) (v2:Int) (v4:Bool) (v6:Bool) (e1:((evalE e l).1)=v1) (e2:((evalE e l).2)=v2) (e4:((v2 == (0:Int)))=v4) (e6:((v1 == w))=v6) (s3:nodes e≤1000000) (h5:v4=true):Fun (KN w0) Tryz.prog 14 [.o (.g [pI e.op,pI e.n,pLs cE e.l]),.o (.c (pI w)),.o (.c (pLs cI l))] (.o (.c (pB v6))):=
 zk (zr (F:=FL [pI e.op,pI e.n,pLs cE e.l,pI w,pLs cI l,pI v1,pI v2,pB v4,pB v6] []) (C:=[(1000004,.call ⟨34,[.o (.g [.h 0,.h 1,.h 2]),yh 4],[],.t [.c (.h 5),.c (.h 6)],[]⟩),
  (1000011,.bin .eql 44 (yh 6) (LF (.k (.int .i64 0))) (yh 7)),
  (10007,.fb 7 true),
  (1000015,.bin .eql 3 (yh 5) (yh 3) (yh 8))]) (k:=⟨14,[.o (.g [.h 0,.h 1,.h 2]),yh 3,yh 4],[],yh 8,[]⟩) 0 (zg ⟨za,za,(ze (zf rfl)),za,(ze zt),za,za,za,za,trivial⟩) ⟨zh (zh0 e l v1 v2 e1 e2 s3),
  e_bin (zb rfl) zd (zb rfl) (r_cmp (congrArg some e4)),
  e_fbv h5,
  e_bin (zb rfl) (zb rfl) (zb rfl) (r_cmp (congrArg some e6)),
  trivial⟩ mixed (by kernel_rfl))
theorem zmp {w0:World} (e:Xp) (w:Int) (l:(List Int)) (v1:Int) (v2:Int) (v4:Bool) (e1:((evalE e l).1)=v1) (e2:((evalE e l).2)=v2) (e4:((v2 == (0:Int)))=v4) (s3:nodes e≤1000000) (h5:v4=false):Fun (KN w0) Tryz.prog 14 [.o (.g [pI e.op,pI e.n,pLs cE e.l]),.o (.c (pI w)),.o (.c (pLs cI l))] (.o (.c (pV (.bool false)))):=
 zk (zr (F:=FL [pI e.op,pI e.n,pLs cE e.l,pI w,pLs cI l,pI v1,pI v2,pB v4] []) (C:=[(1000004,.call ⟨34,[.o (.g [.h 0,.h 1,.h 2]),yh 4],[],.t [.c (.h 5),.c (.h 6)],[]⟩),
  (1000011,.bin .eql 44 (yh 6) (LF (.k (.int .i64 0))) (yh 7)),
  (10007,.fb 7 false)]) (k:=⟨14,[.o (.g [.h 0,.h 1,.h 2]),yh 3,yh 4],[],.o (.c (.k (.bool false))),[]⟩) 0 (zg ⟨za,za,(ze (zf rfl)),za,(ze zt),za,za,za,trivial⟩) ⟨zh (zh0 e l v1 v2 e1 e2 s3),
  e_bin (zb rfl) zd (zb rfl) (r_cmp (congrArg some e4)),
  e_fbv h5,
  trivial⟩ mixed (by kernel_rfl))
theorem x_isL {w0:World} (e:Xp) (w:Int) (l:List Int) (r:Bool) (hr:((evalE e l).2 == 0 && (evalE e l).1 == w)=r) (hn:nodes e≤1000000):Fun (KN w0) Tryz.prog 14 [.o (.g [pI e.op,pI e.n,pLs cE e.l]),.o (.c (pI w)),.o (.c (pLs cI l))] (.o (.c (pB r))):=by
 obtain ⟨v1,e1⟩:∃v,((evalE e l).1)=v:=⟨_,rfl⟩
 obtain ⟨v2,e2⟩:∃v,((evalE e l).2)=v:=⟨_,rfl⟩
 have s3:nodes e≤1000000:=by exact hn
 obtain ⟨v4,e4⟩:∃v,((v2 == (0:Int)))=v:=⟨_,rfl⟩
 cases h5:v4 with
 | true =>
  obtain ⟨v6,e6⟩:∃v,((v1 == w))=v:=⟨_,rfl⟩
  refine Fun.imp (zmo e w l v1 v2 v4 v6 e1 e2 e4 e6 s3 h5) (fun _ _ _ h=>h) (fun v W D h=>?_)
  have r0:r=v6:=by
   (rw [← hr];simp_all)
  rw [r0];exact h
 | false =>
  refine Fun.imp (zmp e w l v1 v2 v4 e1 e2 e4 s3 h5) (fun _ _ _ h=>h) (fun v W D h=>?_)
  have r0:r=false:=by
   (rw [← hr];simp_all)
  rw [r0];exact h
theorem zgW {w0:World} (e:Xp) (w:Int) (l:(List Int)) (v1:Int) (v2:Int) (v4:Bool) (v6:Bool) (e1:((evalE e l).1)=v1) (e2:((evalE e l).2)=v2) (e4:((v2 == w))=v4) (e6:((v1 == (0:Int)))=v6) (s3:nodes e≤1000000) (h5:v4=true):Fun (KN w0) Tryz.prog 15 [.o (.g [pI e.op,pI e.n,pLs cE e.l]),.o (.c (pI w)),.o (.c (pLs cI l))] (.o (.c (pB v6))):=
 zk (zr (F:=FL [pI e.op,pI e.n,pLs cE e.l,pI w,pLs cI l,pI v1,pI v2,pB v4,pB v6] []) (C:=[(1000004,.call ⟨34,[.o (.g [.h 0,.h 1,.h 2]),yh 4],[],.t [.c (.h 5),.c (.h 6)],[]⟩),
  (1000012,.bin .eql 44 (yh 6) (yh 3) (yh 7)),
  (10007,.fb 7 true),
  (1000015,.bin .eql 3 (yh 5) (LF (.k (.int .i64 0))) (yh 8))]) (k:=⟨15,[.o (.g [.h 0,.h 1,.h 2]),yh 3,yh 4],[],yh 8,[]⟩) 0 (zg ⟨za,za,(ze (zf rfl)),za,(ze zt),za,za,za,za,trivial⟩) ⟨zh (zh0 e l v1 v2 e1 e2 s3),
  e_bin (zb rfl) (zb rfl) (zb rfl) (r_cmp (congrArg some e4)),
  e_fbv h5,
  e_bin (zb rfl) zd (zb rfl) (r_cmp (congrArg some e6)),
  trivial⟩ mixed (by kernel_rfl))
theorem zgX {w0:World} (e:Xp) (w:Int) (l:(List Int)) (v1:Int) (v2:Int) (v4:Bool) (e1:((evalE e l).1)=v1) (e2:((evalE e l).2)=v2) (e4:((v2 == w))=v4) (s3:nodes e≤1000000) (h5:v4=false):Fun (KN w0) Tryz.prog 15 [.o (.g [pI e.op,pI e.n,pLs cE e.l]),.o (.c (pI w)),.o (.c (pLs cI l))] (.o (.c (pV (.bool false)))):=
 zk (zr (F:=FL [pI e.op,pI e.n,pLs cE e.l,pI w,pLs cI l,pI v1,pI v2,pB v4] []) (C:=[(1000004,.call ⟨34,[.o (.g [.h 0,.h 1,.h 2]),yh 4],[],.t [.c (.h 5),.c (.h 6)],[]⟩),
  (1000012,.bin .eql 44 (yh 6) (yh 3) (yh 7)),
  (10007,.fb 7 false)]) (k:=⟨15,[.o (.g [.h 0,.h 1,.h 2]),yh 3,yh 4],[],.o (.c (.k (.bool false))),[]⟩) 0 (zg ⟨za,za,(ze (zf rfl)),za,(ze zt),za,za,za,trivial⟩) ⟨zh (zh0 e l v1 v2 e1 e2 s3),
  e_bin (zb rfl) (zb rfl) (zb rfl) (r_cmp (congrArg some e4)),
  e_fbv h5,
  trivial⟩ mixed (by kernel_rfl))
theorem ze9 {w0:World} (e:Xp) (w:Int) (l:List Int) (r:Bool) (hr:((evalE e l).2 == w && (evalE e l).1 == 0)=r) (hn:nodes e≤1000000):Fun (KN w0) Tryz.prog 15 [.o (.g [pI e.op,pI e.n,pLs cE e.l]),.o (.c (pI w)),.o (.c (pLs cI l))] (.o (.c (pB r))):=by
 obtain ⟨v1,e1⟩:∃v,((evalE e l).1)=v:=⟨_,rfl⟩
 obtain ⟨v2,e2⟩:∃v,((evalE e l).2)=v:=⟨_,rfl⟩
 have s3:nodes e≤1000000:=by exact hn
 obtain ⟨v4,e4⟩:∃v,((v2 == w))=v:=⟨_,rfl⟩
 cases h5:v4 with
 | true =>
  obtain ⟨v6,e6⟩:∃v,((v1 == (0:Int)))=v:=⟨_,rfl⟩
  refine Fun.imp (zgW e w l v1 v2 v4 v6 e1 e2 e4 e6 s3 h5) (fun _ _ _ h=>h) (fun v W D h=>?_)
  have r0:r=v6:=by
   (rw [← hr];simp_all)
  rw [r0];exact h
 | false =>
  refine Fun.imp (zgX e w l v1 v2 v4 e1 e2 e4 s3 h5) (fun _ _ _ h=>h) (fun v W D h=>?_)
  have r0:r=false:=by
   (rw [← hr];simp_all)
  rw [r0];exact h
theorem zi6 {w0:World} (hL:LibT w0) (v1:Xp) (v2:Xp) (v3:Xp) (v4:Xp) (v5:Xp) (v6:(List Int)) (v7:Bool) (v10:Bool) (v13:(List Int)) (v14:Bool) (v17:Xp) (v18:Xp) (v19:Xp) (v20:(List Int)) (v21:Bool) (v24:Xp) (v25:Xp) (v26:Xp) (v27:Xp) (v28:Xp) (v29:Bool) (v31:Xp) (v32:Bool) (v36:Xp) (v37:Xp) (v38:Xp) (v39:Bool) (v41:Xp) (v42:Bool) (v46:Bool) (v48:Bool) (v50:Xp) (v51:Bool) (v55:Bool) (v57:Bool) (v59:Xp) (v60:Bool) (v64:Bool) (v66:Bool) (v68:Xp) (v69:Bool) (v73:Bool) (v75:Bool) (v77:Xp) (v78:Bool) (v82:Bool) (v84:Bool) (v86:Xp) (v87:(List UInt8)) (v88:Bool) (v90:Xp) (v91:(List UInt8)) (v92:Bool) (v97:Bool) (v99:Bool) (v101:Bool) (v104:Bool) (v106:Bool) (e1:((Xp.mk 2 (0:Int) []))=v1) (e2:((Xp.mk 1 (3:Int) []))=v2) (e3:((Xp.mk (5:Int) 0 [v1,v2]))=v3) (e4:((Xp.mk 1 (-2:Int) []))=v4) (e5:((Xp.mk (3:Int) 0 [v3,v4]))=v5) (e6:(([(5:Int)]:List Int))=v6) (e7:(((evalE v5 v6).2 == 0 && (evalE v5 v6).1 == (13:Int)))=v7) (e10:(((evalE v5 []).2 == (1:Int) && (evalE v5 []).1 == 0))=v10) (e13:(([(1048576:Int)]:List Int))=v13) (e14:(((evalE v5 v13).2 == (3:Int) && (evalE v5 v13).1 == 0))=v14) (e17:((Xp.mk 2 (1:Int) []))=v17) (e18:((Xp.mk 2 (0:Int) []))=v18) (e19:((Xp.mk (7:Int) 0 [v17,v18]))=v19) (e20:(([(4:Int),(9:Int)]:List Int))=v20) (e21:(((evalE v19 v20).2 == 0 && (evalE v19 v20).1 == (9:Int)))=v21) (e24:((Xp.mk 1 (0:Int) []))=v24) (e25:((Xp.mk 1 (1048576:Int) []))=v25) (e26:((Xp.mk 1 (2:Int) []))=v26) (e27:((Xp.mk (5:Int) 0 [v25,v26]))=v27) (e28:((Xp.mk (6:Int) 0 [v24,v27]))=v28) (e29:(((evalE v28 []).2 == (3:Int) && (evalE v28 []).1 == 0))=v29) (e31:(parE [40,45,32,49,32,36,50,41])=v31) (e32:(parO [40,45,32,49,32,36,50,41])=v32) (e36:((Xp.mk 1 (1:Int) []))=v36) (e37:((Xp.mk 2 (2:Int) []))=v37) (e38:((Xp.mk (4:Int) 0 [v36,v37]))=v38) (e39:(sameX v31 v38)=v39) (e41:(parE [40,43,32,49,41])=v41) (e42:(parO [40,43,32,49,41])=v42) (e46:(!v42)=v46) (e48:(sameX v41 X0)=v48) (e50:(parE [48,49])=v50) (e51:(parO [48,49])=v51) (e55:(!v51)=v55) (e57:(sameX v50 X0)=v57) (e59:(parE [36,52])=v59) (e60:(parO [36,52])=v60) (e64:(!v60)=v64) (e66:(sameX v59 X0)=v66) (e68:(parE [40,43,32,49,32,32,50,41])=v68) (e69:(parO [40,43,32,49,32,32,50,41])=v69) (e73:(!v69)=v73) (e75:(sameX v68 X0)=v75) (e77:(parE [49,48,52,56,53,55,55])=v77) (e78:(parO [49,48,52,56,53,55,55])=v78) (e82:(!v78)=v82) (e84:(sameX v77 X0)=v84) (e86:((Xp.mk 1 (-5:Int) []))=v86) (e87:(textX v86)=v87) (e88:(textO v86)=v88) (e90:((Xp.mk 1 (2097152:Int) []))=v90) (e91:(textX v90)=v91) (e92:(textO v90)=v92) (e97:(((v87:List UInt8) == [45,53]))=v97) (e99:(!v92)=v99) (e101:(sameX v5 v5)=v101) (e104:(sameX v5 v31)=v104) (e106:(!v104)=v106) (s8:nodes v5≤1000000) (h9:v7=true) (s11:nodes v5≤1000000) (h12:v10=true) (s15:nodes v5≤1000000) (h16:v14=true) (s22:nodes v19≤1000000) (h23:v21=true) (s30:nodes v28≤1000000) (s33:IxAll w0 [40,45,32,49,32,36,50,41]) (s34:([40,45,32,49,32,36,50,41]:List UInt8).length≤1000000) (h35:v32=true) (s40:nodes v31≤1000000) (s43:IxAll w0 [40,43,32,49,41]) (s44:([40,43,32,49,41]:List UInt8).length≤1000000) (h45:v39=true) (h47:v46=true) (s49:nodes v41≤1000000) (s52:IxAll w0 [48,49]) (s53:([48,49]:List UInt8).length≤1000000) (h54:v48=true) (h56:v55=true) (s58:nodes v50≤1000000) (s61:IxAll w0 [36,52]) (s62:([36,52]:List UInt8).length≤1000000) (h63:v57=true) (h65:v64=true) (s67:nodes v59≤1000000) (s70:IxAll w0 [40,43,32,49,32,32,50,41]) (s71:([40,43,32,49,32,32,50,41]:List UInt8).length≤1000000) (h72:v66=true) (h74:v73=true) (s76:nodes v68≤1000000) (s79:IxAll w0 [49,48,52,56,53,55,55]) (s80:([49,48,52,56,53,55,55]:List UInt8).length≤1000000) (h81:v75=true) (h83:v82=true) (s85:nodes v77≤1000000) (s89:nodes v86≤1000000) (s93:nodes v90≤1000000) (h94:v29=true) (h95:v84=true) (h96:v88=true) (h98:v97=true) (h100:v99=true) (s102:nodes v5≤1000000) (h103:v101=true) (s105:nodes v5≤1000000):Fun (KN w0) Tryz.prog 4 [] (.o (.c (pB v106))):=
 zk (zS (F:=FL (pI v1.op::pI v1.n::pLs cE v1.l::pI v2.op::pI v2.n::pLs cE v2.l::pI v3.op::pI v3.n::pLs cE v3.l::pI v4.op::pI v4.n::pLs cE v4.l::pI v5.op::pI v5.n::pLs cE v5.l::pLs cI v6::pB v7::pB v10::pLs cI v13::pB v14::pI v17.op::pI v17.n::pLs cE v17.l::pI v18.op::pI v18.n::pLs cE v18.l::pI v19.op::pI v19.n::pLs cE v19.l::pLs cI v20::pB v21::pI v24.op::pI v24.n::pLs cE v24.l::pI v25.op::pI v25.n::pLs cE v25.l::pI v26.op::pI v26.n::pLs cE v26.l::pI v27.op::pI v27.n::pLs cE v27.l::pI v28.op::pI v28.n::pLs cE v28.l::pB v29::pI v31.op::pI v31.n::pLs cE v31.l::pB v32::pI v36.op::pI v36.n::pLs cE v36.l::pI v37.op::pI v37.n::pLs cE v37.l::pI v38.op::pI v38.n::pLs cE v38.l::pB v39::pI v41.op::pI v41.n::pLs cE v41.l::pB v42::pB v46::pB v48::pI v50.op::pI v50.n::pLs cE v50.l::pB v51::pB v55::pB v57::pI v59.op::pI v59.n::pLs cE v59.l::pB v60::pB v64::pB v66::pI v68.op::pI v68.n::pLs cE v68.l::pB v69::pB v73::pB v75::pI v77.op::pI v77.n::pLs cE v77.l::pB v78::pB v82::pB v84::pI v86.op::pI v86.n::pLs cE v86.l::pS v87::pB v88::pI v90.op::pI v90.n::pLs cE v90.l::pS v91::pB v92::pB v97::pB v99::pB v101::pB v104::pB v106::[]) []) (C:=((1000001,.call ⟨12,[.o (.c (.k (.int .i64 0)))],[],.o (.g [.h 0,.h 1,.h 2]),[]⟩) ::
  (1000002,.call ⟨13,[.o (.c (.k (.int .i64 3)))],[],.o (.g [.h 3,.h 4,.h 5]),[]⟩) ::
  (1000003,.call ⟨11,[.o (.c (.k (.int .i64 5))),.o (.g [.h 0,.h 1,.h 2]),.o (.g [.h 3,.h 4,.h 5])],[],.o (.g [.h 6,.h 7,.h 8]),[]⟩) ::
  (1000004,.call ⟨13,[.o (.c (.k (.int .i64 (-2))))],[],.o (.g [.h 9,.h 10,.h 11]),[]⟩) ::
  (1000005,.call ⟨11,[.o (.c (.k (.int .i64 3))),.o (.g [.h 6,.h 7,.h 8]),.o (.g [.h 9,.h 10,.h 11])],[],.o (.g [.h 12,.h 13,.h 14]),[]⟩) ::
  (1000009,.dat 3 1 [.k (.int .i64 5)] 15) ::
  (1000010,.call ⟨14,[.o (.g [.h 12,.h 13,.h 14]),.o (.c (.k (.int .i64 13))),yh 15],[],yh 16,[]⟩) ::
  (10016,.fb 16 true) ::
  (1000013,.call ⟨15,[.o (.g [.h 12,.h 13,.h 14]),.o (.c (.k (.int .i64 1))),.o (.c (.k (.slice none 0 0)))],[],yh 17,[]⟩) ::
  (10017,.fb 17 true) ::
  (1000017,.dat 3 1 [.k (.int .i64 1048576)] 18) ::
  (1000018,.call ⟨15,[.o (.g [.h 12,.h 13,.h 14]),.o (.c (.k (.int .i64 3))),yh 18],[],yh 19,[]⟩) ::
  (10019,.fb 19 true) ::
  (1000021,.call ⟨12,[.o (.c (.k (.int .i64 1)))],[],.o (.g [.h 20,.h 21,.h 22]),[]⟩) ::
  (1000022,.call ⟨12,[.o (.c (.k (.int .i64 0)))],[],.o (.g [.h 23,.h 24,.h 25]),[]⟩) ::
  (1000023,.call ⟨11,[.o (.c (.k (.int .i64 7))),.o (.g [.h 20,.h 21,.h 22]),.o (.g [.h 23,.h 24,.h 25])],[],.o (.g [.h 26,.h 27,.h 28]),[]⟩) ::
  (1000024,.dat 3 2 [.k (.int .i64 4),.k (.int .i64 9)] 29) ::
  (1000025,.call ⟨14,[.o (.g [.h 26,.h 27,.h 28]),.o (.c (.k (.int .i64 9))),yh 29],[],yh 30,[]⟩) ::
  (10030,.fb 30 true) ::
  (1000028,.call ⟨13,[.o (.c (.k (.int .i64 0)))],[],.o (.g [.h 31,.h 32,.h 33]),[]⟩) ::
  (1000029,.call ⟨13,[.o (.c (.k (.int .i64 1048576)))],[],.o (.g [.h 34,.h 35,.h 36]),[]⟩) ::
  (1000030,.call ⟨13,[.o (.c (.k (.int .i64 2)))],[],.o (.g [.h 37,.h 38,.h 39]),[]⟩) ::
  (1000031,.call ⟨11,[.o (.c (.k (.int .i64 5))),.o (.g [.h 34,.h 35,.h 36]),.o (.g [.h 37,.h 38,.h 39])],[],.o (.g [.h 40,.h 41,.h 42]),[]⟩) ::
  (1000032,.call ⟨11,[.o (.c (.k (.int .i64 6))),.o (.g [.h 31,.h 32,.h 33]),.o (.g [.h 40,.h 41,.h 42])],[],.o (.g [.h 43,.h 44,.h 45]),[]⟩) ::
  (1000033,.call ⟨15,[.o (.g [.h 43,.h 44,.h 45]),.o (.c (.k (.int .i64 3))),.o (.c (.k (.slice none 0 0)))],[],yh 46,[]⟩) ::
  (1000036,.call ⟨8,[.o (.c (.k (.string ⟨#[40,45,32,49,32,36,50,41]⟩)))],[],.t [.g [.h 47,.h 48,.h 49],.c (.h 50)],[]⟩) ::
  (10050,.fb 50 true) ::
  (1000046,.call ⟨13,[.o (.c (.k (.int .i64 1)))],[],.o (.g [.h 51,.h 52,.h 53]),[]⟩) ::
  (1000047,.call ⟨12,[.o (.c (.k (.int .i64 2)))],[],.o (.g [.h 54,.h 55,.h 56]),[]⟩) ::
  (1000048,.call ⟨11,[.o (.c (.k (.int .i64 4))),.o (.g [.h 51,.h 52,.h 53]),.o (.g [.h 54,.h 55,.h 56])],[],.o (.g [.h 57,.h 58,.h 59]),[]⟩) ::
  (1000049,.call ⟨10,[.o (.g [.h 47,.h 48,.h 49]),.o (.g [.h 57,.h 58,.h 59])],[],yh 60,[]⟩) ::
  (1000053,.op (.len [28] 3) [LF (.s 52 0 5 5)] [] (LF (.k (.int .i64 5)))) ::
  (1000060,.call ⟨8,[.o (.c (.k (.string ⟨#[40,43,32,49,41]⟩)))],[],.t [.g [.h 61,.h 62,.h 63],.c (.h 64)],[]⟩) ::
  (10060,.fb 60 true) ::
  (1000070,.un .not (yh 64) (yh 65)) ::
  (10065,.fb 65 true) ::
  (1000075,.call ⟨10,[.o (.g [.h 61,.h 62,.h 63]),.o (.g [.k (.int .i64 0),.k (.int .i64 0),.k (.slice none 0 0)])],[],yh 66,[]⟩) ::
  (1000078,.bin .add 3 (LF (.k (.int .i64 0))) (LF (.k (.int .i64 1))) (LF (.k (.int .i64 1)))) ::
  (1000085,.call ⟨8,[.o (.c (.k (.string ⟨#[48,49]⟩)))],[],.t [.g [.h 67,.h 68,.h 69],.c (.h 70)],[]⟩) ::
  (10066,.fb 66 true) ::
  (1000095,.un .not (yh 70) (yh 71)) ::
  (10071,.fb 71 true) ::
  (1000100,.call ⟨10,[.o (.g [.h 67,.h 68,.h 69]),.o (.g [.k (.int .i64 0),.k (.int .i64 0),.k (.slice none 0 0)])],[],yh 72,[]⟩) ::
  (1000103,.bin .add 3 (LF (.k (.int .i64 1))) (LF (.k (.int .i64 1))) (LF (.k (.int .i64 2)))) ::
  (1000110,.call ⟨8,[.o (.c (.k (.string ⟨#[36,52]⟩)))],[],.t [.g [.h 73,.h 74,.h 75],.c (.h 76)],[]⟩) ::
  (10072,.fb 72 true) ::
  (1000120,.un .not (yh 76) (yh 77)) ::
  (10077,.fb 77 true) ::
  (1000125,.call ⟨10,[.o (.g [.h 73,.h 74,.h 75]),.o (.g [.k (.int .i64 0),.k (.int .i64 0),.k (.slice none 0 0)])],[],yh 78,[]⟩) ::
  (1000128,.bin .add 3 (LF (.k (.int .i64 2))) (LF (.k (.int .i64 1))) (LF (.k (.int .i64 3)))) ::
  (1000135,.call ⟨8,[.o (.c (.k (.string ⟨#[40,43,32,49,32,32,50,41]⟩)))],[],.t [.g [.h 79,.h 80,.h 81],.c (.h 82)],[]⟩) ::
  (10078,.fb 78 true) ::
  (1000145,.un .not (yh 82) (yh 83)) ::
  (10083,.fb 83 true) ::
  (1000150,.call ⟨10,[.o (.g [.h 79,.h 80,.h 81]),.o (.g [.k (.int .i64 0),.k (.int .i64 0),.k (.slice none 0 0)])],[],yh 84,[]⟩) ::
  (1000153,.bin .add 3 (LF (.k (.int .i64 3))) (LF (.k (.int .i64 1))) (LF (.k (.int .i64 4)))) ::
  (1000160,.call ⟨8,[.o (.c (.k (.string ⟨#[49,48,52,56,53,55,55]⟩)))],[],.t [.g [.h 85,.h 86,.h 87],.c (.h 88)],[]⟩) ::
  (10084,.fb 84 true) ::
  (1000170,.un .not (yh 88) (yh 89)) ::
  (10089,.fb 89 true) ::
  (1000175,.call ⟨10,[.o (.g [.h 85,.h 86,.h 87]),.o (.g [.k (.int .i64 0),.k (.int .i64 0),.k (.slice none 0 0)])],[],yh 90,[]⟩) ::
  (1000178,.bin .add 3 (LF (.k (.int .i64 4))) (LF (.k (.int .i64 1))) (LF (.k (.int .i64 5)))) ::
  (1000181,.call ⟨13,[.o (.c (.k (.int .i64 (-5))))],[],.o (.g [.h 91,.h 92,.h 93]),[]⟩) ::
  (1000182,.call ⟨6,[.o (.g [.h 91,.h 92,.h 93])],[],.t [.c (.h 94),.c (.h 95)],[]⟩) ::
  (1000188,.call ⟨13,[.o (.c (.k (.int .i64 2097152)))],[],.o (.g [.h 96,.h 97,.h 98]),[]⟩) ::
  (1000189,.call ⟨6,[.o (.g [.h 96,.h 97,.h 98])],[],.t [.c (.h 99),.c (.h 100)],[]⟩) ::
  (10046,.fb 46 true) ::
  (10090,.fb 90 true) ::
  (10095,.fb 95 true) ::
  (1000204,.bin .eql 9 (yh 94) (LF (.k (.string ⟨#[45,53]⟩))) (yh 101)) ::
  (10101,.fb 101 true) ::
  (1000208,.un .not (yh 100) (yh 102)) ::
  (10102,.fb 102 true) ::
  (1000213,.call ⟨16,[.o (.g [.h 12,.h 13,.h 14]),.o (.g [.h 12,.h 13,.h 14])],[],yh 103,[]⟩) ::
  (10103,.fb 103 true) ::
  (1000218,.call ⟨16,[.o (.g [.h 12,.h 13,.h 14]),.o (.g [.h 47,.h 48,.h 49])],[],yh 104,[]⟩) ::
  (1000219,.un .not (yh 104) (yh 105))::[]:List (Nat×Ent))) (k:=⟨4,[],[],yh 105,[]⟩) ⟨[],[],6⟩ [] 0 (zg ⟨za,za,(ze (zf rfl)),za,za,(ze (zf rfl)),za,za,(ze (zf rfl)),za,za,(ze (zf rfl)),za,za,(ze (zf rfl)),(ze zt),za,za,(ze zt),za,za,za,(ze (zf rfl)),za,za,(ze (zf rfl)),za,za,(ze (zf rfl)),(ze zt),za,za,za,(ze (zf rfl)),za,za,(ze (zf rfl)),za,za,(ze (zf rfl)),za,za,(ze (zf rfl)),za,za,(ze (zf rfl)),za,za,za,(ze (zf rfl)),za,za,za,(ze (zf rfl)),za,za,(ze (zf rfl)),za,za,(ze (zf rfl)),za,za,za,(ze (zf rfl)),za,za,za,za,za,(ze (zf rfl)),za,za,za,za,za,(ze (zf rfl)),za,za,za,za,za,(ze (zf rfl)),za,za,za,za,za,(ze (zf rfl)),za,za,za,za,za,(ze (zf rfl)),za,za,za,za,(ze (zf rfl)),za,za,za,za,za,za,za,trivial⟩) ⟨zh (x_arg (0:Int) v1 e1),
  zh (x_num (3:Int) v2 e2),
  zh (x_opL (5:Int) v1 v2 v3 e3),
  zh (x_num (-2:Int) v4 e4),
  zh (x_opL (3:Int) v3 v4 v5 e5),
  e_dat (c:=cI) (ps:=(pV (.int .i64 5)::[])) (qs:=(pI (5:Int)::[])) (by rw [← e6];rfl) rfl rfl rfl (pimps (fun _ _ _ h=>h) <| qo) rfl,
  zh (x_isL v5 (13:Int) v6 v7 e7 s8),
  e_fbv h9,
  zh (Fun.imp (as2:=[.o (.g [pI v5.op,pI v5.n,pLs cE v5.l]),.o (.c (pV (.int .i64 1))),.o (.c (pV (.slice none 0 0)))]) (ze9 v5 (1:Int) [] v10 e10 s11) (zbn ⟨fun _ _ _ h=>h,fun _ _ _ h=>h,fun _ _ _ h=>zlF h,trivial⟩) (fun _ _ _ h=>h)),
  e_fbv h12,
  e_dat (c:=cI) (ps:=(pV (.int .i64 1048576)::[])) (qs:=(pI (1048576:Int)::[])) (by rw [← e13];rfl) rfl rfl rfl (pimps (fun _ _ _ h=>h) <| qo) rfl,
  zh (ze9 v5 (3:Int) v13 v14 e14 s15),
  e_fbv h16,
  zh (x_arg (1:Int) v17 e17),
  zh (x_arg (0:Int) v18 e18),
  zh (x_opL (7:Int) v17 v18 v19 e19),
  e_dat (c:=cI) (ps:=(pV (.int .i64 4)::pV (.int .i64 9)::[])) (qs:=(pI (4:Int)::pI (9:Int)::[])) (by rw [← e20];rfl) rfl rfl rfl (pimps (fun _ _ _ h=>h) <| pimps (fun _ _ _ h=>h) <| qo) rfl,
  zh (x_isL v19 (9:Int) v20 v21 e21 s22),
  e_fbv h23,
  zh (x_num (0:Int) v24 e24),
  zh (x_num (1048576:Int) v25 e25),
  zh (x_num (2:Int) v26 e26),
  zh (x_opL (5:Int) v25 v26 v27 e27),
  zh (x_opL (6:Int) v24 v27 v28 e28),
  zh (Fun.imp (as2:=[.o (.g [pI v28.op,pI v28.n,pLs cE v28.l]),.o (.c (pV (.int .i64 3))),.o (.c (pV (.slice none 0 0)))]) (ze9 v28 (3:Int) [] v29 e29 s30) (zbn ⟨fun _ _ _ h=>h,fun _ _ _ h=>h,fun _ _ _ h=>zlF h,trivial⟩) (fun _ _ _ h=>h)),
  zh (zbT hL [40,45,32,49,32,36,50,41] v31 v32 e31 e32 s33 s34),
  e_fbv h35,
  zh (x_num (1:Int) v36 e36),
  zh (x_arg (2:Int) v37 e37),
  zh (x_opL (4:Int) v36 v37 v38 e38),
  zh (zbV v31 v38 v39 e39 s40),
  zoW (E:=9) (by kernel_rfl),
  zh (zbT hL [40,43,32,49,41] v41 v42 e41 e42 s43 s44),
  e_fbv h45,
  e_un (zb rfl) (zb rfl) (fun W=>by rw [← e46];exact r_not W),
  e_fbv h47,
  zh (Fun.imp (as2:=[.o (.g [pI v41.op,pI v41.n,pLs cE v41.l]),.o (.g [pV (.int .i64 0),pV (.int .i64 0),pV (.slice none 0 0)])]) (zbV v41 X0 v48 e48 s49) (zbn ⟨fun _ _ _ h=>h,fun _ _ _ h=>zdI h,trivial⟩) (fun _ _ _ h=>h)),
  e_bin zd zd zd (r_ar rfl),
  zh (zbT hL [48,49] v50 v51 e50 e51 s52 s53),
  e_fbv h54,
  e_un (zb rfl) (zb rfl) (fun W=>by rw [← e55];exact r_not W),
  e_fbv h56,
  zh (Fun.imp (as2:=[.o (.g [pI v50.op,pI v50.n,pLs cE v50.l]),.o (.g [pV (.int .i64 0),pV (.int .i64 0),pV (.slice none 0 0)])]) (zbV v50 X0 v57 e57 s58) (zbn ⟨fun _ _ _ h=>h,fun _ _ _ h=>zdI h,trivial⟩) (fun _ _ _ h=>h)),
  e_bin zd zd zd (r_ar rfl),
  zh (zbT hL [36,52] v59 v60 e59 e60 s61 s62),
  e_fbv h63,
  e_un (zb rfl) (zb rfl) (fun W=>by rw [← e64];exact r_not W),
  e_fbv h65,
  zh (Fun.imp (as2:=[.o (.g [pI v59.op,pI v59.n,pLs cE v59.l]),.o (.g [pV (.int .i64 0),pV (.int .i64 0),pV (.slice none 0 0)])]) (zbV v59 X0 v66 e66 s67) (zbn ⟨fun _ _ _ h=>h,fun _ _ _ h=>zdI h,trivial⟩) (fun _ _ _ h=>h)),
  e_bin zd zd zd (r_ar rfl),
  zh (zbT hL [40,43,32,49,32,32,50,41] v68 v69 e68 e69 s70 s71),
  e_fbv h72,
  e_un (zb rfl) (zb rfl) (fun W=>by rw [← e73];exact r_not W),
  e_fbv h74,
  zh (Fun.imp (as2:=[.o (.g [pI v68.op,pI v68.n,pLs cE v68.l]),.o (.g [pV (.int .i64 0),pV (.int .i64 0),pV (.slice none 0 0)])]) (zbV v68 X0 v75 e75 s76) (zbn ⟨fun _ _ _ h=>h,fun _ _ _ h=>zdI h,trivial⟩) (fun _ _ _ h=>h)),
  e_bin zd zd zd (r_ar rfl),
  zh (zbT hL [49,48,52,56,53,55,55] v77 v78 e77 e78 s79 s80),
  e_fbv h81,
  e_un (zb rfl) (zb rfl) (fun W=>by rw [← e82];exact r_not W),
  e_fbv h83,
  zh (Fun.imp (as2:=[.o (.g [pI v77.op,pI v77.n,pLs cE v77.l]),.o (.g [pV (.int .i64 0),pV (.int .i64 0),pV (.slice none 0 0)])]) (zbV v77 X0 v84 e84 s85) (zbn ⟨fun _ _ _ h=>h,fun _ _ _ h=>zdI h,trivial⟩) (fun _ _ _ h=>h)),
  e_bin zd zd zd (r_ar rfl),
  zh (x_num (-5:Int) v86 e86),
  zh (zkN hL v86 v87 v88 e87 e88 s89),
  zh (x_num (2097152:Int) v90 e90),
  zh (zkN hL v90 v91 v92 e91 e92 s93),
  e_fbv h94,
  e_fbv h95,
  e_fbv h96,
  e_bin (zb rfl) zd (zb rfl) (fun W X Y=>by rw [← e97];exact r_seq W X Y),
  e_fbv h98,
  e_un (zb rfl) (zb rfl) (fun W=>by rw [← e99];exact r_not W),
  e_fbv h100,
  zh (znt v5 v5 v101 e101 s102),
  e_fbv h103,
  zh (znt v5 v31 v104 e104 s105),
  e_un (zb rfl) (zb rfl) (fun W=>by rw [← e106];exact r_not W),
  trivial⟩ mixed trivial (fun _ _ _ _ _ hs=>by cases hs) (by kernel_rfl))
end Go.Proofs.YtdkofaajcpcjkaaGreatDoor
namespace Go.Proofs.YtdkofaajcpcjkaaGreatDoor
open Go.RowKit
section
variable {K:Kit} {F:Fact}
theorem zoY {α:Type} {c:α→List Pred} {z b g n id:Nat} {T U:TypeId} {x y:Lf} (hn:F.g n=pG c ([]:List α)):Gh.sound K F ⟨id,[.bx b U [x,y,.k (.slice none 0 0)],.gn g],[.bx b U [x,y,.gr g],.gl g T z n],[]⟩:=by
 intro β a W hg hA
 obtain ⟨q,us,h1,h2,h3,h4⟩:=hA _ (List.mem_cons_self ..)
 have hb:β g=none:=hA _ (List.mem_cons_of_mem _ (List.mem_cons_self ..))
 refine ⟨β,hg,fun _ _=>Loc.same.rfl,fun _ h=>h,fun _ h=>.inl h,fun c hc=>(by cases hc),fun A hAm=>?_⟩
 simp only [List.mem_cons,List.not_mem_nil,or_false] at hAm
 rcases hAm with rfl | rfl
 ·refine ⟨q,us,h1,h2,?_,h4⟩
  match hu:us.toList,h3 with
  | [v1,v2,v3],h3 =>
   refine ⟨h3.1,h3.2.1,?_,trivial⟩
   have:v3=.slice none 0 0:=h3.2.2.1
   show v3=gv β g
   rw [this];unfold gv;rw [hb]
  | [],h3=>exact h3.elim
  | [_],h3=>exact h3.2.elim
  | [_,_],h3=>exact h3.2.2.elim
  | _::_::_::_::_,h3=>exact h3.2.2.2.elim
 ·exact znE hb hn
def pCk (K:Kit):Pred:=fun v _ _=>K.ck v=true
theorem zhA:FineC K (pCk K):=⟨fun _ _ _ h=>h,fun h=>h⟩
theorem zhE {b g id a:Nat} {U:TypeId} {x y:Lf} (ha:F.c a=pCk K):Gh.sound K F ⟨id,[.bx b U [x,y,.gr g]],[.bx b U [x,y,.gr g],.bx b U [x,y,.h a]],[]⟩:=by
 intro β st W hg hA
 have hB:=hA _ (List.mem_cons_self ..)
 refine ⟨β,hg,fun _ _=>Loc.same.rfl,fun _ h=>h,fun _ h=>.inl h,fun c hc=>(by cases hc),fun A hAm=>?_⟩
 simp only [List.mem_cons,List.not_mem_nil,or_false] at hAm
 rcases hAm with rfl | rfl
 ·exact hB
 ·obtain ⟨q,us,h1,h2,h3,h4,h5⟩:=hB
  refine ⟨q,us,h1,h2,?_,h4,h5⟩
  have hk:=List.all_eq_true.1 h4
  match hu:us.toList,h3 with
  | [v1,v2,v3],h3 =>
   refine ⟨h3.1,h3.2.1,?_,trivial⟩
   show F.c a v3 W β.D
   rw [ha]
   exact hk v3 (by rw [hu];simp)
  | [],h3=>exact h3.elim
  | [_],h3=>exact h3.2.elim
  | [_,_],h3=>exact h3.2.2.elim
  | _::_::_::_::_,h3=>exact h3.2.2.2.elim
end
structure x_put_A_T where
 i:Int
 o:(List Xp)
end Go.Proofs.YtdkofaajcpcjkaaGreatDoor
namespace Go.Proofs.YtdkofaajcpcjkaaGreatDoor
open Go.RowKit Go.Shelf Go.Sort
section
variable {P:Program} {a:Act} {W:World} {o:Oper} {N:Act→World→Prop} {Q:Exit→Act→World→Prop}
end
section
variable {K:Kit} {P:Program} {F:Fact}
end
end Go.Proofs.YtdkofaajcpcjkaaGreatDoor
namespace Go.Proofs.YtdkofaajcpcjkaaGreatDoor
open Go.RowKit
mutual
inductive SpS (W:World):List Xp→Value→List Nat→Prop
 | nil:SpS W [] (.slice none 0 0) []
 | cons {l:List Xp} {q cap:Nat} {cur:Array Value} {S:List Nat} (hq:W.heap[q]?=some (.cells cur 32 (0,0))) (h1:l.length≤cap) (h2:cap≤maxLen) (h3:cur.size=cap*3) (hk:cur.toList.all (KN W).ck=true) (hn:q ∉ S) (h:SpC W l (cur.toList.take (l.length*3)) S):SpS W l (.slice (some ⟨q,0,none⟩) l.length cap) (q::S)
inductive SpC (W:World):List Xp→List Value→List Nat→Prop
 | nil:SpC W [] [] []
 | cons {o n:Int} {l r:List Xp} {v:Value} {vs:List Value} {S S2:List Nat} (hs:SpS W l v S) (hc:SpC W r vs S2) (hd:∀q∈S,q ∉ S2):SpC W (.mk o n l::r) (.int .i64 o::.int .i64 n::v::vs) (S++S2)
end
section
variable {W W':World}
mutual
theorem SpS.lt:∀{l:List Xp} {v:Value} {S:List Nat},SpS W l v S→∀q∈S,q<W.heap.size
 | _,_,_,.nil,q,h=>by cases h
 | _,_,_,.cons hq _ _ _ _ _ hc,p,h=>by
  rcases List.mem_cons.1 h with rfl | h
  ·exact (Array.getElem?_eq_some_iff.1 hq).1
  ·exact SpC.lt hc p h
theorem SpC.lt:∀{l:List Xp} {vs:List Value} {S:List Nat},SpC W l vs S→∀q∈S,q<W.heap.size
 | _,_,_,.nil,q,h=>by cases h
 | _,_,_,.cons hs hc _,p,h=>by
  rcases List.mem_append.1 h with h | h
  ·exact SpS.lt hs p h
  ·exact SpC.lt hc p h
end
mutual
theorem SpS.mv:∀{l:List Xp} {v:Value} {S:List Nat},SpS W l v S→(∀q∈S,W'.heap[q]?=W.heap[q]?)→SpS W' l v S
 | _,_,_,.nil,_=>.nil
 | _,_,_,.cons hq h1 h2 h3 hk hn hc,h=>.cons ((h _ (List.mem_cons_self ..)).trans hq) h1 h2 h3 hk hn (SpC.mv hc fun p hp=>h p (List.mem_cons_of_mem _ hp))
theorem SpC.mv:∀{l:List Xp} {vs:List Value} {S:List Nat},SpC W l vs S→(∀q∈S,W'.heap[q]?=W.heap[q]?)→SpC W' l vs S
 | _,_,_,.nil,_=>.nil
 | _,_,_,.cons hs hc hd,h=>.cons (SpS.mv hs fun p hp=>h p (List.mem_append_left _ hp)) (SpC.mv hc fun p hp=>h p (List.mem_append_right _ hp)) hd
end
theorem SpC.len:∀{l:List Xp} {vs:List Value} {S:List Nat},SpC W l vs S→vs.length=l.length*3
 | _,_,_,.nil=>rfl
 | _,_,_,.cons _ hc _=>by simp only [List.length_cons,SpC.len hc];omega
theorem cE_mk (o n:Int) (l:List Xp):cE (.mk o n l)=[pI o,pI n,pLs cE l]:=cE_eq _
mutual
theorem SpS.reads {D:Dat}:∀{l:List Xp} {v:Value} {S:List Nat},SpS W l v S→(∀q∈S,D q)→pLs cE l v W D
 | _,_,_,.nil,_=>.inl ⟨⟨_,_,rfl⟩,rfl,rfl⟩
 | l,_,_,.cons (q:=q) (cap:=cap) (cur:=cur) hq h1 h2 h3 hk hn hc,h=>by
  refine .inr ⟨q,0,cap,_,cur,(0,0),rfl,h q (List.mem_cons_self ..),hq,?_,h1⟩
  have:=SpC.reads (D:=D) hc fun p hp=>h p (List.mem_cons_of_mem _ hp)
  show okl (l.flatMap cE) ((cur.toList.drop 0).take (l.flatMap cE).length) W D
  rw [List.drop_zero,q6 zj]
  exact this
theorem SpC.reads {D:Dat}:∀{l:List Xp} {vs:List Value} {S:List Nat},SpC W l vs S→(∀q∈S,D q)→okl (l.flatMap cE) vs W D
 | _,_,_,.nil,_=>trivial
 | _,_,_,.cons (o:=o) (n:=n) (l:=l) (r:=r) hs hc hd,h=>by
  rw [List.flatMap_cons,cE_mk]
  exact ⟨rfl,rfl,SpS.reads hs fun p hp=>h p (List.mem_append_left _ hp),SpC.reads hc fun p hp=>h p (List.mem_append_right _ hp)⟩
end
mutual
theorem SpS.uniq:∀{l:List Xp} {v:Value} {S S':List Nat},SpS W l v S→SpS W l v S'→S=S'
 | _,_,_,_,.nil,h=>by
  cases h with
  | nil=>rfl
 | _,_,_,_,.cons hq h1 h2 h3 hk hn hc,h=>by
  cases h with
  | cons gq g1 g2 g3 gk gn gc =>
   rw [hq] at gq
   injection gq with gq;injection gq with gq
   subst gq
   rw [SpC.uniq hc gc]
theorem SpC.uniq:∀{l:List Xp} {vs:List Value} {S S':List Nat},SpC W l vs S→SpC W l vs S'→S=S'
 | _,_,_,_,.nil,h=>by cases h;rfl
 | _,_,_,_,.cons hs hc hd,h=>by
  cases h with
  | cons gs gc gd=>rw [SpS.uniq hs gs,SpC.uniq hc gc]
end
theorem SpC.at_ {j:Nat} {x:Xp}:∀{l:List Xp} {vs:List Value} {S:List Nat},SpC W l vs S→l[j]?=some x→∃v Sj,vs[j*3]?=some (.int .i64 x.op)∧vs[j*3+1]?=some (.int .i64 x.n)∧vs[j*3+2]?=some v∧SpS W x.l v Sj∧(∀q∈Sj,q∈S):=by
 induction j with
 | zero =>
  intro l vs S h hj
  cases h with
  | nil=>cases hj
  | cons hs hc hd =>
   injection hj with hj;subst hj
   exact ⟨_,_,rfl,rfl,rfl,hs,fun q hq=>List.mem_append_left _ hq⟩
 | succ j ih =>
  intro l vs S h hj
  cases h with
  | nil=>cases hj
  | cons hs hc hd =>
   obtain ⟨v,Sj,h1,h2,h3,h4,h5⟩:=ih hc hj
   refine ⟨v,Sj,?_,?_,?_,h4,fun q hq=>List.mem_append_right _ (h5 q hq)⟩
   ·rw [show (j+1)*3=j*3+3 by omega];exact h1
   ·rw [show (j+1)*3+1=j*3+1+3 by omega];exact h2
   ·rw [show (j+1)*3+2=j*3+2+3 by omega];exact h3
theorem SpC.set {D:Dat} {j:Nat} {x y:Xp} {v u:Value} {Sj:List Nat}:∀{l:List Xp} {vs vs':List Value} {S:List Nat},SpC W l vs S→l[j]?=some x→vs[j*3+2]?=some v→SpS W x.l v Sj→(∀q∈S,q ∉ Sj→W'.heap[q]?=W.heap[q]?∧D q) →
  vs'.length=vs.length→(∀i,i / 3≠j→vs'[i]?=vs[i]?)→vs'[j*3]?=some (.int .i64 y.op)→vs'[j*3+1]?=some (.int .i64 y.n)→vs'[j*3+2]?=some u→pLs cE y.l u W' D→okl ((l.set j y).flatMap cE) vs' W' D:=by
 induction j with
 | zero =>
  intro l vs vs' S h hj hv hs hb hl hi h1 h2 h3 hu
  cases h with
  | nil=>cases hj
  | @cons o n l r v0 vs S1 S2 hs1 hc hd =>
   injection hj with hj;subst hj
   have hv0:v0=v:=by simpa using hv
   subst hv0
   have hS:S1=Sj:=SpS.uniq hs1 hs
   subst hS
   match vs',hl with
   | a::b::c::rest,hl =>
    have hr:rest=vs:=by
     apply List.ext_getElem?
     intro i
     have:=hi (i+3) (by omega)
     simpa using this
    subst hr
    have e1:a=.int .i64 y.op:=by simpa using h1
    have e2:b=.int .i64 y.n:=by simpa using h2
    have e3:c=u:=by simpa using h3
    subst e1;subst e2;subst e3
    rw [List.set_cons_zero,List.flatMap_cons,cE_eq]
    refine ⟨rfl,rfl,hu,?_⟩
    refine SpC.reads (W:=W') (SpC.mv hc fun q hq=>(hb q (List.mem_append_right _ hq) fun hq1=>hd q hq1 hq).1) fun q hq=>(hb q (List.mem_append_right _ hq) fun hq1=>hd q hq1 hq).2
   | [],hl=>simp at hl
   | [_],hl=>simp at hl
   | [_,_],hl=>simp at hl
 | succ j ih =>
  intro l vs vs' S h hj hv hs hb hl hi h1 h2 h3 hu
  cases h with
  | nil=>cases hj
  | @cons o n l r v0 vs S1 S2 hs1 hc hd =>
   have hv':vs[j*3+2]?=some v:=by rw [show (j+1)*3+2=j*3+2+3 by omega] at hv;exact hv
   have hsub:∀q∈Sj,q∈S2:=by
    obtain ⟨v2,S3,_,_,g3,g4,g5⟩:=SpC.at_ hc hj
    have:v2=v:=Option.some.inj (g3.symm.trans hv')
    subst this
    rw [SpS.uniq hs g4];exact g5
   match vs',hl with
   | a::b::c::rest,hl =>
    have e1:a=.int .i64 o:=by simpa using hi 0 (by omega)
    have e2:b=.int .i64 n:=by simpa using hi 1 (by omega)
    have e3:c=v0:=by simpa using hi 2 (by omega)
    subst e1;subst e2;subst e3
    rw [List.set_cons_succ,List.flatMap_cons,cE_mk]
    refine ⟨rfl,rfl,?_,?_⟩
    ·exact SpS.reads (W:=W') (SpS.mv hs1 fun q hq=>(hb q (List.mem_append_left _ hq) fun hj=>hd q hq (hsub q hj)).1) fun q hq=>(hb q (List.mem_append_left _ hq) fun hj=>hd q hq (hsub q hj)).2
    ·refine ih hc hj hv' hs (fun q hq hn=>hb q (List.mem_append_right _ hq) hn) (by simpa using hl) (fun i hne=>?_) ?_ ?_ ?_ hu
     ·have:=hi (i+3) (by omega)
      simpa using this
     ·rw [show (j+1)*3=j*3+3 by omega] at h1;exact h1
     ·rw [show (j+1)*3+1=j*3+1+3 by omega] at h2;exact h2
     ·rw [show (j+1)*3+2=j*3+2+3 by omega] at h3;exact h3
   | [],hl=>simp at hl
   | [_],hl=>simp at hl
   | [_,_],hl=>simp at hl
end
end Go.Proofs.YtdkofaajcpcjkaaGreatDoor
namespace Go.Proofs.YtdkofaajcpcjkaaGreatDoor
open Go.RowKit
section
variable {w0:World}
def pLD (P:Nat→Prop) (l:List Xp):Pred:=fun v W D=>pLs cE l v W D∧∀q,P q→D q
def pPD (P:Nat→Prop) (x:Xp):Pred:=fun v W D=>pP (cE x) v W D∧∀q,P q→D q
def pNew (w0:World) (P:Nat→Prop) (l:List Xp):Pred:=fun v W D=>∃S,SpS W l v S∧∀q∈S,D q∧¬ P q∧w0.heap.size≤q
def pGx (w0:World) (P:Nat→Prop) (l:List Xp):LPred:=fun vs W D=>∃S,SpC W l vs S∧∀q∈S,D q∧¬ P q∧w0.heap.size≤q
def pGs (w0:World) (P:Nat→Prop) (S:List Nat) (l:List Xp):LPred:=fun vs W D=>SpC W l vs S∧∀q∈S,D q∧¬ P q∧w0.heap.size≤q
def P1 (P:Nat→Prop) (S:List Nat):Nat→Prop:=fun q=>P q∨q∈S
theorem zam {P:Nat→Prop} {l:List Xp}:FineC (KN w0) (pLD P l):=⟨fun hS hO hD h=>⟨(ze (zf rfl)).mv hS hO hD h.1,fun q hq=>hD q (h.2 q hq)⟩,fun h=>(ze (zf rfl)).ck h.1⟩
theorem zlS {P:Nat→Prop} {x:Xp}:FineC (KN w0) (pPD P x):=⟨fun hS hO hD h=>⟨(zl ((zf rfl) x)).mv hS hO hD h.1,fun q hq=>hD q (h.2 q hq)⟩,fun h=>(zl ((zf rfl) x)).ck h.1⟩
theorem stay {K:Kit} {W W':World} {D:Dat} {T:Nat→Prop} {S:List Nat} (hT:∀q,T q→Mlq K D W q) (hO:Oth T W W') (hl:∀q∈S,q<W.heap.size) (hD:∀q∈S,D q):∀q∈S,W'.heap[q]?=W.heap[q]?:=fun q hq=>hO.block q (hl q hq) fun h=>(hT q h).2.1 (hD q hq)
theorem SpS.ck {W:World} {l:List Xp} {v:Value} {S:List Nat} (h:SpS W l v S):(KN w0).ck v=true:=by cases h<;>rfl
theorem SpC.ck {W:World}:∀{l:List Xp} {vs:List Value} {S:List Nat},SpC W l vs S→vs.all (KN w0).ck=true
 | _,_,_,.nil=>rfl
 | _,_,_,.cons hs hc _=>by
  simp only [List.all_cons,SpC.ck hc,SpS.ck hs,Bool.and_true,Bool.and_eq_true]
  exact ⟨rfl,rfl⟩
theorem zaS {P:Nat→Prop} {l:List Xp}:FineC (KN w0) (pNew w0 P l):=⟨fun hS hO hD ⟨S,h,hb⟩=>⟨S,h.mv (stay hS hO h.lt fun q hq=>(hb q hq).1),fun q hq=>⟨hD q (hb q hq).1,(hb q hq).2⟩⟩,fun ⟨S,h,_⟩=>h.ck⟩
theorem za8 {P:Nat→Prop} {l:List Xp}:FineL (KN w0) (pGx w0 P l):=⟨fun hS hO hD ⟨S,h,hb⟩=>⟨S,h.mv (stay hS hO h.lt fun q hq=>(hb q hq).1),fun q hq=>⟨hD q (hb q hq).1,(hb q hq).2⟩⟩,fun ⟨S,h,_⟩=>h.ck⟩
theorem zhB {P:Nat→Prop} {S:List Nat} {l:List Xp}:FineL (KN w0) (pGs w0 P S l):=⟨fun hS hO hD ⟨h,hb⟩=>⟨h.mv (stay hS hO h.lt fun q hq=>(hb q hq).1),fun q hq=>⟨hD q (hb q hq).1,(hb q hq).2⟩⟩,fun ⟨h,_⟩=>h.ck⟩
theorem SpC.snoc {W:World} {o n:Int} {x:List Xp} {v:Value} {S2:List Nat} (h2:SpS W x v S2):∀{l:List Xp} {vs:List Value} {S:List Nat},SpC W l vs S→(∀q∈S,q ∉ S2)→∃S3,SpC W (l++[.mk o n x]) (vs++[.int .i64 o,.int .i64 n,v]) S3∧∀q∈S3,q∈S∨q∈S2
 | _,_,_,.nil,_=>⟨S2++[],SpC.cons h2 .nil (fun _ _ h=>(by cases h)),fun q hq=>.inr (by simpa using hq)⟩
 | _,_,_,.cons (S:=Sa) hs hc hd,h=>by
  obtain ⟨S3,h3,h4⟩:=SpC.snoc h2 hc fun q hq=>h q (List.mem_append_right _ hq)
  refine ⟨Sa++S3,SpC.cons hs h3 (fun q hq h5=>?_),fun q hq=>?_⟩
  ·rcases h4 q h5 with h6 | h6
   ·exact hd q hq h6
   ·exact h q (List.mem_append_left _ hq) h6
  ·rcases List.mem_append.1 hq with h5 | h5
   ·exact .inl (List.mem_append_left _ h5)
   ·exact (h4 q h5).imp (List.mem_append_right _) id
end
section
variable {w0:World} {P:Program} {F:Fact}
theorem zjQ {α:Type} {K:Kit} {R:Frm} {c:Code} {F F':Fact} {F1:α→Fact} {st nw st':List Atom} {x:Ex} (h1:∀s,Imp K F (F1 s) st st) (h2:∀β a W,Geo K β W→(∀A∈st,A.ok K F β a W)→∃s,∀A∈nw,A.ok K (F1 s) β a W) (h3:∀s,Goes K P R c (F1 s) (nw++st) x F' st'):Goes K P R c F st x F' st':=by
 intro Q a W hI hQ
 obtain ⟨g1,g2,β,hE,hA⟩:=hI
 obtain ⟨s,hs⟩:=h2 β a W hE.geo hA
 refine h3 s Q a W ⟨g1,g2,β,hE,fun A hAm=>?_⟩ hQ
 rcases List.mem_append.1 hAm with h | h
 ·exact hs A h
 ·exact h1 s β a W hE.geo hA A h
theorem zm6 {K:Kit} {T R E:TypeId} {k:Nat} {o:Lf} {Q:Nat→Prop} {l:List Xp} (hT:P.underlying T=some (.slice E)) (hk:F.c k=pLD Q l) (ho:Gives F o (.int .i64 (l.length:Int))):Ent.sound K P F (.op (.len [T] R) [LF (.h k)] [] (LF o)):=by
 intro β W vs hs _ _
 match vs,hs with
 | [v],⟨h1,_⟩ =>
  have h1:F.c k v W β.D:=h1
  rw [hk] at h1
  refine ⟨.int .i64 (l.length:Int),?_,(ho β _ W).2 rfl⟩
  rcases h1.1 with ⟨⟨A,c,rfl⟩,h0,_⟩ | ⟨q,p,c,U,cs,fz,rfl,_⟩
  ·rw [h0];simp [Sig.sem,Builtin.len_,run_underlying hT,goInt]
  ·simp [Sig.sem,Builtin.len_,run_underlying hT,goInt]
 | [],h=>exact h.elim
 | _::_::_,h=>exact h.2.elim
theorem e_iaD {K:Kit} {T E:TypeId} {k o:Nat} {y:Lf} {Q:Nat→Prop} {l:List Xp} {i:Int} {j:Nat} {x:Xp} (hk:F.c k=pLD Q l) (ho:F.c o=pPD Q x) (hT:P.underlying T=some (.slice E)) (hz:szOf P E=some 3) (hy:Gives F y (.int .i64 i)) (hi:i=(j:Int)) (hv:l[j]?=some x):Ent.sound K P F (.op (.ia T) [LF (.h k),LF y] [] (LF (.h o))):=by
 intro β W vs hs _ hg
 match vs,hs with
 | [v,w],⟨h1,h2,_⟩ =>
  have h1:F.c k v W β.D:=h1
  rw [hk] at h1
  have h2:w=.int .i64 i:=(hy β w W).1 h2
  obtain ⟨r,hr,hq⟩:=e_iaL (K:=K) (P:=P) (F:=FL [pLs cE l,pP (cE x)] []) (x:=.h 0) (y:=.k (.int .i64 i)) (o:=.h 1) (l:=l) (v:=x) zj hT hz (zc rfl) zd hi hv (zc rfl) β W [v,w] ⟨h1.1,h2,trivial⟩ (fun x hx=>by cases hx) hg
  refine ⟨r,hr,?_⟩
  show F.c o r W β.D
  rw [ho]
  exact ⟨hq,h1.2⟩
 | [],h=>exact h.elim
 | [_],h=>exact h.2.elim
 | _::_::_::_,h=>exact h.2.2.elim
theorem e_ldD {K:Kit} {T:TypeId} {k a b c:Nat} {Q:Nat→Prop} {x:Xp} (hk:F.c k=pPD Q x) (ha:F.c a=pI x.op) (hb:F.c b=pI x.n) (hc:F.c c=pLD Q x.l) (hz:szOf P T=some 3) (hA:aggOf P T=some true):Ent.sound K P F (.op (.ld T) [LF (.h k)] [] (.o (.g [.h a,.h b,.h c]))):=by
 intro β W vs hs _ hg
 match vs,hs with
 | [v],⟨h1,_⟩ =>
  have h1:F.c k v W β.D:=h1
  rw [hk] at h1
  obtain ⟨r,hr,us,e,hq⟩:=e_ldG (K:=K) (P:=P) (T:=T) (F:=FL [pP (cE x),pI x.op,pI x.n,pLs cE x.l] []) (x:=.h 0) (ls:=[.h 1,.h 2,.h 3]) hz hA (zc rfl) (cE_eq _).symm rfl (zj _) β W [v] ⟨h1.1,trivial⟩ (fun x hx=>by cases hx) hg
  refine ⟨r,hr,us,e,?_⟩
  match us.toList,hq with
  | [u1,u2,u3],⟨q1,q2,q3,_⟩ =>
   refine ⟨?_,?_,?_,trivial⟩
   ·show F.c a u1 W β.D
    rw [ha];exact q1
   ·show F.c b u2 W β.D
    rw [hb];exact q2
   ·show F.c c u3 W β.D
    rw [hc];exact ⟨q3,h1.2⟩
 | [],h=>exact h.elim
 | _::_::_,h=>exact h.2.elim
theorem znv (x:Xp):Xp.mk x.op x.n x.l=x:=by cases x;rfl
theorem zoR {T:TypeId} {b n m b' a1 a2 a3:Nat} {P0:Nat→Prop} {S:List Nat} {l:List Xp} {x:Xp} (hn:F.g n=pGs w0 P0 S l) (hm:F.g m=pGx w0 P0 (l++[x])) (h1:F.c a1=pI x.op) (h2:F.c a2=pI x.n) (h3:F.c a3=pNew w0 (P1 P0 S) x.l) (hlen:(l.length+1)*3≤1099511627776):Ent.sound (KN w0) P F (.app T 3 b n m (.o (.c (.s b' 0 1 1))) [.bx b' T [.h a1,.h a2,.h a3]] false):=by
 intro β W vx hx hpre hg
 obtain ⟨q,hq,rfl⟩:=hx
 obtain ⟨q',us,hq',hh,hoks,hck,_,_⟩:=hpre _ (List.mem_cons_self ..)
 have e:q'=q:=Option.some.inj (hq'.symm.trans hq)
 subst e
 obtain ⟨u3,hul,S2,g3,g4⟩:∃u3,us.toList=[.int .i64 x.op,.int .i64 x.n,u3]∧pNew w0 (P1 P0 S) x.l u3 W β.D:=by
  match hu:us.toList,hoks with
  | [v1,v2,v3],⟨k1,k2,k3,_⟩ =>
   have k1:F.c a1 v1 W β.D:=k1
   have k2:F.c a2 v2 W β.D:=k2
   have k3:F.c a3 v3 W β.D:=k3
   rw [h1] at k1;rw [h2] at k2;rw [h3] at k3
   have k1:v1=.int .i64 x.op:=k1
   have k2:v2=.int .i64 x.n:=k2
   exact ⟨v3,by rw [k1,k2],k3⟩
 refine ⟨us.toList,.inr ⟨⟨q',0,none⟩,1,1,rfl,by rw [hul];rfl,fun j u hu=>?_⟩,hck,fun vs D hv hD=>?_⟩
 ·rw [show (⟨q',0,none⟩:Addr).add j=⟨q',0+j,none⟩ from zan ..,Nat.zero_add,qz hh]
  simpa using hu
 ·simp only [Bool.false_eq_true,if_false,hn] at hv
  obtain ⟨k1,k2⟩:=hv
  obtain ⟨S3,k3,k4⟩:=SpC.snoc (o:=x.op) (n:=x.n) g3 k1 fun q hq hq2=>(g4 q hq2).2.1 (.inr hq)
  refine ⟨?_,?_⟩
  ·rw [hm,hul]
   refine ⟨S3,by rw [znv] at k3;exact k3,fun q hq=>?_⟩
   rcases k4 q hq with h | h
   ·exact k2 q h
   ·exact ⟨hD q (g4 q h).1,fun hp=>(g4 q h).2.1 (.inl hp),(g4 q h).2.2⟩
  ·rw [hul,List.length_append,SpC.len k1]
   show l.length*3+3≤_
   omega
theorem zjP {b g n id:Nat} {T U:TypeId} {x y:Lf} {P0:Nat→Prop} (hn:F.g n=pGx w0 P0 []):Gh.sound (KN w0) F ⟨id,[.bx b U [x,y,.k (.slice none 0 0)],.gn g],[.bx b U [x,y,.gr g],.gl g T 3 n],[]⟩:=by
 intro β a W hg hA
 obtain ⟨q,us,h1,h2,h3,h4⟩:=hA _ (List.mem_cons_self ..)
 have hb:β g=none:=hA _ (List.mem_cons_of_mem _ (List.mem_cons_self ..))
 refine ⟨β,hg,fun _ _=>Loc.same.rfl,fun _ h=>h,fun _ h=>.inl h,fun c hc=>(by cases hc),fun A hAm=>?_⟩
 simp only [List.mem_cons,List.not_mem_nil,or_false] at hAm
 rcases hAm with rfl | rfl
 ·refine ⟨q,us,h1,h2,?_,h4⟩
  match hu:us.toList,h3 with
  | [v1,v2,v3],h3 =>
   refine ⟨h3.1,h3.2.1,?_,trivial⟩
   have:v3=.slice none 0 0:=h3.2.2.1
   show v3=gv β g
   rw [this];unfold gv;rw [hb]
  | [],h3=>exact h3.elim
  | [_],h3=>exact h3.2.elim
  | [_,_],h3=>exact h3.2.2.elim
  | _::_::_::_::_,h3=>exact h3.2.2.2.elim
 ·have e1:gv β g=.slice none 0 0:=by unfold gv;rw [hb]
  have e2:glen β g=0:=by unfold glen;rw [hb]
  refine ⟨[],?_,by rw [hn];exact ⟨[],.nil,fun q hq=>by cases hq⟩,fun q hq=>by rw [hb] at hq;cases hq⟩
  rw [e1,e2]
  exact World.ownsRow_nil W _ T 3
theorem zia {b g n k id i j b0 k0:Nat} {l l0:List Xp} {P0:Nat→Prop} {s t:Int} (hbg:b≠g) (hn:F.g n=pGx w0 P0 l) (hk:F.c k=pNew w0 P0 l) (hi:F.c i=pI s) (hj:F.c j=pI t) (hk0:F.c k0=pLD P0 l0):Gh.sound (KN w0) F ⟨id,[.gl g 32 3 n,.bx b 32 [.h i,.h j,.gr g],.bx b0 32 [.h i,.h j,.h k0]],[.bx b 32 [.h i,.h j,.h k]],[g]⟩:=by
 intro β a W hg hA
 obtain ⟨xs,hown,hgx,hml⟩:=hA (.gl g 32 3 n) (List.mem_cons_self ..)
 obtain ⟨q,us,hq,hh,ho,hr⟩:=hA (.bx b 32 [.h i,.h j,.gr g]) (List.mem_cons_of_mem _ (List.mem_cons_self ..))
 obtain ⟨_,us0,_,_,ho0,_⟩:=hA (.bx b0 32 [.h i,.h j,.h k0]) (by simp)
 have hP:∀q,P0 q→β.D q:=by
  match us0.toList,ho0 with
  | [v1,v2,v3],⟨_,_,h3,_⟩ =>
   have h3:F.c k0 v3 W β.D:=h3
   rw [hk0] at h3
   exact h3.2
 rw [hn] at hgx
 obtain ⟨S,hS,hSb⟩:=hgx
 let β':Loc:=⟨fun x=>if x=g then none else β x,β.len,fun q=>β.D q∨β g=some q⟩
 have hb:β' g=none:=if_pos rfl
 have hne:∀x,x≠g→β' x=β x:=fun x hx=>if_neg hx
 have hsub:∀x q,β' x=some q→x≠g∧β x=some q:=fun x q hq=>by
  by_cases hx:x=g
  ·subst hx;rw [hb] at hq;cases hq
  ·exact ⟨hx,by rw [← hne x hx];exact hq⟩
 refine ⟨β',⟨fun x q hq=>hg.lt x q (hsub x q hq).2,fun x y q hx hy=>hg.inj x y q (hsub x q hx).2 (hsub y q hy).2,hg.bel,fun x q hq hD=>?_,fun q hq=>?_,fun q hq=>.inl (hg.low q hq)⟩,fun x hx=>⟨hne x (by simpa using hx),rfl⟩,fun q hq=>.inl hq,fun q hq=>hq.imp (fun h=>h) fun h=>⟨g,by simp,h⟩,fun x hx q hq=>?_,fun A hAm=>?_⟩
 ·obtain ⟨h3,h4⟩:=hsub x q hq
  rcases hD with hD | hD
  ·exact hg.dis x q h4 hD
  ·exact h3 (hg.inj x g q h4 hD)
 ·rcases hq with hq | hq
  ·exact hg.dlt q hq
  ·exact hg.lt g q hq
 ·rw [List.mem_singleton] at hx
  subst hx
  rw [hb] at hq;cases hq
 ·obtain rfl:=List.mem_singleton.1 hAm
  refine ⟨q,us,(hne b hbg).trans hq,hh,?_,hr⟩
  match hu:us.toList,ho with
  | [v1,v2,v3],⟨h3,h4,h5,_⟩ =>
   have h3:F.c i v1 W β.D:=h3
   have h4:F.c j v2 W β.D:=h4
   rw [hi] at h3;rw [hj] at h4
   refine ⟨?_,?_,?_,trivial⟩
   ·show F.c i v1 W β'.D
    rw [hi];exact h3
   ·show F.c j v2 W β'.D
    rw [hj];exact h4
   ·show F.c k v3 W β'.D
    have h1:v3=gv β g:=h5
    rw [hk,h1]
    have hxl:=SpC.len hS
    rcases hown.2 with ⟨hv,h0⟩ | ⟨p,cap,cur,hv,hbase,hh2,hle,hmax,hsz,htake⟩
    ·rw [hv]
     have hx0:xs.length=0:=by rw [hown.1,h0,Nat.zero_mul]
     have e:l=[]:=List.eq_nil_of_length_eq_zero (by omega)
     subst e
     exact ⟨[],.nil,fun q hq=>by cases hq⟩
    ·have hbp:β g=some p:=by
      unfold gv at hv
      split at hv
      ·cases hv
      ·rename_i p' hp'
       simp only [Value.slice.injEq,Option.some.injEq,Addr.mk.injEq] at hv
       rw [hp',hv.1.1]
     have hlen:glen β g=l.length:=by have:=hown.1;omega
     rw [hv,hlen]
     refine ⟨p::S,.cons hh2 (by omega) hmax hsz (by obtain ⟨ob,ho2,ho3⟩:=hml p hbp;rw [hh2] at ho2;injection ho2 with ho2;subst ho2;simp only [ml,mlf,Bool.and_eq_true] at ho3;exact ho3.2) (fun hp=>hg.dis g p hbp (hSb p hp).1) (by rw [← hlen,htake];exact hS),fun q hq=>?_⟩
     rcases List.mem_cons.1 hq with rfl | hq
     ·exact ⟨.inr hbp,fun hp=>hg.dis g q hbp (hP q hp),hbase⟩
     ·exact ⟨.inl (hSb q hq).1,(hSb q hq).2⟩
theorem zhr {F1:List Nat→Fact} {st:List Atom} {b g n n' i j k k':Nat} {P0:Nat→Prop} {o l:List Xp} (hgl:Atom.gl g 32 3 n∈st) (hbx:Atom.bx b 32 [.h i,.h j,.h k]∈st) (hn:F.g n=pGx w0 P0 o) (hn':∀S,(F1 S).g n'=pGs w0 P0 S o) (hk:F.c k=pLD P0 l) (hk':∀S,(F1 S).c k'=pLD (P1 P0 S) l) (hi:∀S,(F1 S).c i=F.c i) (hj:∀S,(F1 S).c j=F.c j) :
  ∀β a W,Geo (KN w0) β W→(∀A∈st,A.ok (KN w0) F β a W)→∃S,∀A∈[Atom.bx b 32 [.h i,.h j,.h k'],Atom.gl g 32 3 n'],A.ok (KN w0) (F1 S) β a W:=by
 intro β a W hg hA
 obtain ⟨xs,hown,hgx,hml⟩:=hA _ hgl
 obtain ⟨q,us,hq,hh,ho,hr⟩:=hA _ hbx
 rw [hn] at hgx
 obtain ⟨S,hS,hSb⟩:=hgx
 refine ⟨S,fun A hAm=>?_⟩
 simp only [List.mem_cons,List.not_mem_nil,or_false] at hAm
 rcases hAm with rfl | rfl
 ·refine ⟨q,us,hq,hh,?_,hr⟩
  match us.toList,ho with
  | [v1,v2,v3],⟨h1,h2,h3,_⟩ =>
   have h1:F.c i v1 W β.D:=h1
   have h2:F.c j v2 W β.D:=h2
   have h3:F.c k v3 W β.D:=h3
   refine ⟨?_,?_,?_,trivial⟩
   ·show (F1 S).c i v1 W β.D
    rw [hi];exact h1
   ·show (F1 S).c j v2 W β.D
    rw [hj];exact h2
   ·show (F1 S).c k' v3 W β.D
    rw [hk'];rw [hk] at h3
    exact ⟨h3.1,fun q hq=>hq.elim (h3.2 q) fun h=>(hSb q h).1⟩
 ·exact ⟨xs,hown,by rw [hn'];exact ⟨hS,hSb⟩,hml⟩
end
theorem l_at {l:List Xp} {k:Nat} {x:Xp} (h:l[k]?=some x):l.take k++[x]=l.take (k+1):=by rw [List.take_add_one,h];rfl
def zaC (w0:World) (N:Nat):Prop:=∀(P:Nat→Prop) (x y:Xp),x=y→nodes x≤N→Fun (KN w0) Tryz.prog 37 [.o (.g [pI x.op,pI x.n,pLD P x.l])] (.o (.g [pI y.op,pI y.n,pNew w0 P y.l]))
structure x_copy_A_T where
 i:Int
 o:(List Xp)
def zQ:List Atom:=[.sl 0 (.o (.g [.h 0,.h 1,.h 2])),.sl 1 (.o (.c (.p 0 0))),.sl 2 (.o (.c (.p 1 0))),.sl 3 (.o (.c (.p 7 0))),.sl 4 (yh 3),.sl 5 (.o (.c (.p 0 0))),.sl 6 (yh 0),.sl 7 (.o (.c (.p 0 1))),.sl 8 (yh 1),.sl 9 (.o (.g [.h 0,.h 1,.k (.slice none 0 0)])),.bx 0 32 [.h 0,.h 1,.h 2],.bx 1 32 [.k (.int .i64 0),.k (.int .i64 0),.k (.slice none 0 0)],.bx 7 32 [.h 0,.h 1,.gr 901],.gl 901 32 3 1]
def zaw:LoopS:=⟨3,[.sl 0 (.o (.g [.h 0,.h 1,.h 2])),.sl 1 (.o (.c (.p 0 0))),.sl 2 (.o (.c (.p 1 0))),.sl 3 (.o (.c (.p 7 0))),.sl 4 (.o (.c (.k (.int .i64 0)))),.sl 5 (.o (.c (.p 0 0))),.sl 6 (yh 0),.sl 7 (.o (.c (.p 0 1))),.sl 8 (yh 1),.sl 9 (.o (.g [.h 0,.h 1,.k (.slice none 0 0)])),.bx 0 32 [.h 0,.h 1,.h 2],.bx 1 32 [.k (.int .i64 0),.k (.int .i64 0),.k (.slice none 0 0)],.bx 7 32 [.h 0,.h 1,.gr 901],.gl 901 32 3 0],(.x 0),[.sl 0 (.o (.g [.h 0,.h 1,.h 2])),.sl 1 (.o (.c (.p 0 0))),.sl 2 (.o (.c (.p 1 0))),.sl 3 (.o (.c (.p 7 0))),.sl 5 (.o (.c (.p 0 0))),.sl 6 (yh 0),.sl 7 (.o (.c (.p 0 1))),.sl 8 (yh 1),.sl 9 (.o (.g [.h 0,.h 1,.k (.slice none 0 0)])),.bx 0 32 [.h 0,.h 1,.h 2],.bx 1 32 [.k (.int .i64 0),.k (.int .i64 0),.k (.slice none 0 0)],.bx 7 32 [.h 0,.h 1,.gr 901],.gl 901 32 3 1]⟩
theorem zgU {w0:World} (e:Xp) (N:Nat) (P0:(Nat→Prop)) (IH:zaC w0 N) (i:Int) (o:(List Xp)) (v501:Int) (v502:Bool) (n504:Nat) (x505:Xp) (v508:Xp) (v510:(List Xp)) (v512:Int) (e501:((e.l.length:Int))=v501) (e502:(decide (i<v501))=v502) (e508:(x505)=v508) (e510:(o++[v508])=v510) (e512:(IntKind.i64.wrap (i+(1:Int)))=v512) (h503:v502=true) (s506:i=(n504:Int)) (s507:e.l[n504]?=some x505) (s509:nodes x505≤N) (s511:(o.length+1)*3≤1099511627776) (i':Int) (o':(List Xp)) (q0:(v512)=i') (q1:(v510)=o') (R:Frm) (hR:R.pm=⟨ntOf Tryz.prog 37,[],[]⟩):Goes (KN w0) Tryz.prog R (lp Tryz.prog 37 0) (FL [pI e.op,pI e.n,pLD P0 e.l,pI i] [pGx w0 P0 ([]:List Xp),pGx w0 P0 o]) zQ .n (FL [pI e.op,pI e.n,pLD P0 e.l,pI i'] [pGx w0 P0 ([]:List Xp),pGx w0 P0 o']) zQ:=
 zjQ (F1:=fun S=>FL [pI e.op,pI e.n,pLD P0 e.l,pI i,pLD (P1 P0 S) e.l,pI v501,pB v502,pCk (KN w0),pPD (P1 P0 S) x505,pI x505.op,pI x505.n,pLD (P1 P0 S) x505.l,pI v508.op,pI v508.n,pNew w0 (P1 P0 S) v508.l,pI v512] [pGx w0 P0 ([]:List Xp),pGx w0 P0 o,pGs w0 P0 S o,pGx w0 P0 v510]) (fun S=>(zipA.imp ⟨z_g ⟨yy,yy,yy,trivial⟩,z_c yy,z_c yy,z_c yy,z_c yy,z_c yy,z_c yy,z_c yy,z_c yy,z_g ⟨yy,yy,yy,trivial⟩,z_b ⟨yy,yy,yy,trivial⟩,z_b ⟨yy,yy,yy,trivial⟩,z_b ⟨yy,yy,yy,trivial⟩,z_gl (fun _ _ _ h=>h),trivial⟩)) (zhr (n:=1) (k:=2) (by simp [zQ]) (by simp [zQ]) rfl (fun _=>rfl) rfl (fun _=>rfl) (fun _=>rfl) (fun _=>rfl)) fun S =>
 goes (x:=.n) (y:=.n) (Fb:=FL [pI e.op,pI e.n,pLD P0 e.l,pI i,pLD (P1 P0 S) e.l,pI v501,pB v502,pCk (KN w0),pPD (P1 P0 S) x505,pI x505.op,pI x505.n,pLD (P1 P0 S) x505.l,pI v508.op,pI v508.n,pNew w0 (P1 P0 S) v508.l,pI v512] [pGx w0 P0 ([]:List Xp),pGx w0 P0 o,pGs w0 P0 S o,pGx w0 P0 v510]) (stb:=[.bx 0 32 [.h 0,.h 1,.h 4],.gl 901 32 3 2]++zQ) (tl:=[.sl 0 (.o (.g [.h 0,.h 1,.h 2])),.sl 1 (.o (.c (.p 0 0))),.sl 2 (.o (.c (.p 1 0))),.sl 3 (.o (.c (.p 7 0))),.sl 4 (yh 15),.sl 5 (.o (.c (.p 0 0))),.sl 6 (yh 0),.sl 7 (.o (.c (.p 0 1))),.sl 8 (yh 1),.sl 9 (.o (.g [.h 0,.h 1,.k (.slice none 0 0)])),.bx 0 32 [.h 0,.h 1,.h 2],.bx 1 32 [.k (.int .i64 0),.k (.int .i64 0),.k (.slice none 0 0)],.bx 7 32 [.h 0,.h 1,.gr 901],.gl 901 32 3 3]) (C:=((1005003,.op (.len [29] 3) [yh 4] [] (yh 5)) ::
  (1005004,.bin .lss 3 (yh 3) (yh 5) (yh 6)) ::
  (10006,.fb 6 true) ::
  (1005010,.op (.ia 29) [yh 4,yh 3] [] (yh 8)) ::
  (1005011,.op (.ld 32) [yh 8] [] (.o (.g [.h 9,.h 10,.h 11]))) ::
  (1005012,.call ⟨37,[.o (.g [.h 9,.h 10,.h 11])],[],.o (.g [.h 12,.h 13,.h 14]),[]⟩) ::
  (1005014,.app 32 3 901 2 3 (.o (.c (.s 5013 0 1 1))) [.bx 5013 32 [.h 12,.h 13,.h 14]] false) ::
  (1005018,.bin .add 3 (yh 3) (LF (.k (.int .i64 1))) (yh 15)) ::
  []:List (Nat×Ent))) (H:=⟨[],[⟨3,[.bx 7 32 [.h 0,.h 1,.gr 901]],[.bx 7 32 [.h 0,.h 1,.gr 901],.bx 7 32 [.h 0,.h 1,.h 7]],[]⟩],0⟩) 5000 (fun _ _ _ _ h=>h) (zg ⟨za,za,zam,za,zam,za,za,zhA,zlS,za,za,zam,za,za,zaS,za,trivial⟩ ⟨za8,za8,zhB,za8,trivial⟩) ⟨zm6 (E:=32) (by kernel_rfl) rfl (zb (by rw [← e501];rfl)),
  e_bin (zb rfl) (zb rfl) (zb rfl) (r_cmp (congrArg some e502)),
  e_fbv h503,
  e_iaD (E:=32) rfl rfl (by kernel_rfl) (by kernel_rfl) (zb rfl) s506 s507,
  e_ldD rfl rfl rfl rfl (by kernel_rfl) (by kernel_rfl),
  zh (IH (P1 P0 S) x505 v508 e508 s509),
  zoR (x:=v508) rfl (by rw [e510];rfl) rfl rfl rfl s511,
  e_bin (zb rfl) zd (zb rfl) (r_ar (congrArg some e512)),
  trivial⟩ mixed hR ⟨zhE rfl,trivial⟩ (fun _ _ _ hs=>by cases hs) (by kernel_rfl:zA (KN w0) Tryz.prog _ ⟨[],[⟨3,[.bx 7 32 [.h 0,.h 1,.gr 901]],[.bx 7 32 [.h 0,.h 1,.gr 901],.bx 7 32 [.h 0,.h 1,.h 7]],[]⟩],0⟩ ⟨ntOf Tryz.prog 37,[],[]⟩ (lp Tryz.prog 37 0) 5000 ([.bx 0 32 [.h 0,.h 1,.h 4],.gl 901 32 3 2]++zQ) .n [.sl 0 (.o (.g [.h 0,.h 1,.h 2])),.sl 1 (.o (.c (.p 0 0))),.sl 2 (.o (.c (.p 1 0))),.sl 3 (.o (.c (.p 7 0))),.sl 4 (yh 15),.sl 5 (.o (.c (.p 0 0))),.sl 6 (yh 0),.sl 7 (.o (.c (.p 0 1))),.sl 8 (yh 1),.sl 9 (.o (.g [.h 0,.h 1,.k (.slice none 0 0)])),.bx 0 32 [.h 0,.h 1,.h 2],.bx 1 32 [.k (.int .i64 0),.k (.int .i64 0),.k (.slice none 0 0)],.bx 7 32 [.h 0,.h 1,.gr 901],.gl 901 32 3 3]=true) rfl (zipA.imp ⟨z_g ⟨yy,yy,yy,trivial⟩,z_c yy,z_c yy,z_c yy,z_c (fun β v W h=>(zc rfl β v W).2 (by rw [← q0];exact h)),z_c yy,z_c yy,z_c yy,z_c yy,z_g ⟨yy,yy,yy,trivial⟩,z_b ⟨yy,yy,yy,trivial⟩,z_b ⟨yy,yy,yy,trivial⟩,z_b ⟨yy,yy,yy,trivial⟩,z_gq rfl (by rw [q1];rfl),trivial⟩)
theorem zgV {w0:World} (e:Xp) (N:Nat) (P0:(Nat→Prop)) (IH:zaC w0 N) (i:Int) (o:(List Xp)) (v501:Int) (v502:Bool) (e501:((e.l.length:Int))=v501) (e502:(decide (i<v501))=v502) (h503:v502=false) (o2:(List Xp)) (F:Fact) (u0:F.c 0=pI e.op) (u1:F.c 1=pI e.n) (u2:F.c 2=pLD P0 e.l) (ug0:F.g 0=pGx w0 P0 ([]:List Xp)) (ug1:F.g 1=pGx w0 P0 o2) (q0:(o)=o2) (R:Frm) (hR:R.pm=⟨ntOf Tryz.prog 37,[],[]⟩):Goes (KN w0) Tryz.prog R (lp Tryz.prog 37 0) (FL [pI e.op,pI e.n,pLD P0 e.l,pI i] [pGx w0 P0 ([]:List Xp),pGx w0 P0 o]) zQ (.x 0) F zaw.out:=
 zjQ (F1:=fun S=>FL [pI e.op,pI e.n,pLD P0 e.l,pI i,pLD (P1 P0 S) e.l,pI v501,pB v502,pCk (KN w0)] [pGx w0 P0 ([]:List Xp),pGx w0 P0 o,pGs w0 P0 S o]) (fun S=>(zipA.imp ⟨z_g ⟨yy,yy,yy,trivial⟩,z_c yy,z_c yy,z_c yy,z_c yy,z_c yy,z_c yy,z_c yy,z_c yy,z_g ⟨yy,yy,yy,trivial⟩,z_b ⟨yy,yy,yy,trivial⟩,z_b ⟨yy,yy,yy,trivial⟩,z_b ⟨yy,yy,yy,trivial⟩,z_gl (fun _ _ _ h=>h),trivial⟩)) (zhr (n:=1) (k:=2) (by simp [zQ]) (by simp [zQ]) rfl (fun _=>rfl) rfl (fun _=>rfl) (fun _=>rfl) (fun _=>rfl)) fun S =>
 goes (x:=(.x 0)) (y:=(.x 0)) (Fb:=FL [pI e.op,pI e.n,pLD P0 e.l,pI i,pLD (P1 P0 S) e.l,pI v501,pB v502,pCk (KN w0)] [pGx w0 P0 ([]:List Xp),pGx w0 P0 o,pGs w0 P0 S o]) (stb:=[.bx 0 32 [.h 0,.h 1,.h 4],.gl 901 32 3 2]++zQ) (tl:=[.sl 0 (.o (.g [.h 0,.h 1,.h 2])),.sl 1 (.o (.c (.p 0 0))),.sl 2 (.o (.c (.p 1 0))),.sl 3 (.o (.c (.p 7 0))),.sl 5 (.o (.c (.p 0 0))),.sl 6 (yh 0),.sl 7 (.o (.c (.p 0 1))),.sl 8 (yh 1),.sl 9 (.o (.g [.h 0,.h 1,.k (.slice none 0 0)])),.bx 0 32 [.h 0,.h 1,.h 2],.bx 1 32 [.k (.int .i64 0),.k (.int .i64 0),.k (.slice none 0 0)],.bx 7 32 [.h 0,.h 1,.gr 901],.gl 901 32 3 1]) (C:=((1005003,.op (.len [29] 3) [yh 4] [] (yh 5)) ::
  (1005004,.bin .lss 3 (yh 3) (yh 5) (yh 6)) ::
  (10006,.fb 6 false) ::
  []:List (Nat×Ent))) (H:=⟨[],[⟨3,[.bx 7 32 [.h 0,.h 1,.gr 901]],[.bx 7 32 [.h 0,.h 1,.gr 901],.bx 7 32 [.h 0,.h 1,.h 7]],[]⟩],0⟩) 5000 (fun _ _ _ _ h=>h) (zg ⟨za,za,zam,za,zam,za,za,zhA,trivial⟩ ⟨za8,za8,zhB,trivial⟩) ⟨zm6 (E:=32) (by kernel_rfl) rfl (zb (by rw [← e501];rfl)),
  e_bin (zb rfl) (zb rfl) (zb rfl) (r_cmp (congrArg some e502)),
  e_fbv h503,
  trivial⟩ mixed hR ⟨zhE rfl,trivial⟩ (fun _ _ _ hs=>by cases hs) (by kernel_rfl:zA (KN w0) Tryz.prog _ ⟨[],[⟨3,[.bx 7 32 [.h 0,.h 1,.gr 901]],[.bx 7 32 [.h 0,.h 1,.gr 901],.bx 7 32 [.h 0,.h 1,.h 7]],[]⟩],0⟩ ⟨ntOf Tryz.prog 37,[],[]⟩ (lp Tryz.prog 37 0) 5000 ([.bx 0 32 [.h 0,.h 1,.h 4],.gl 901 32 3 2]++zQ) (.x 0) [.sl 0 (.o (.g [.h 0,.h 1,.h 2])),.sl 1 (.o (.c (.p 0 0))),.sl 2 (.o (.c (.p 1 0))),.sl 3 (.o (.c (.p 7 0))),.sl 5 (.o (.c (.p 0 0))),.sl 6 (yh 0),.sl 7 (.o (.c (.p 0 1))),.sl 8 (yh 1),.sl 9 (.o (.g [.h 0,.h 1,.k (.slice none 0 0)])),.bx 0 32 [.h 0,.h 1,.h 2],.bx 1 32 [.k (.int .i64 0),.k (.int .i64 0),.k (.slice none 0 0)],.bx 7 32 [.h 0,.h 1,.gr 901],.gl 901 32 3 1]=true) rfl (zipA.imp ⟨z_g ⟨fun β v W h=>(zc u0 β v W).2 h,fun β v W h=>(zc u1 β v W).2 h,fun β v W h=>(zc u2 β v W).2 h,trivial⟩,z_c yy,z_c yy,z_c yy,z_c yy,z_c (fun β v W h=>(zc u0 β v W).2 h),z_c yy,z_c (fun β v W h=>(zc u1 β v W).2 h),z_g ⟨fun β v W h=>(zc u0 β v W).2 h,fun β v W h=>(zc u1 β v W).2 h,yy,trivial⟩,z_b ⟨fun β v W h=>(zc u0 β v W).2 h,fun β v W h=>(zc u1 β v W).2 h,fun β v W h=>(zc u2 β v W).2 h,trivial⟩,z_b ⟨yy,yy,yy,trivial⟩,z_b ⟨fun β v W h=>(zc u0 β v W).2 h,fun β v W h=>(zc u1 β v W).2 h,yy,trivial⟩,z_gq rfl (by rw [q0];exact ug1),trivial⟩)
def ziu (e:Xp) (N:Nat) (P0:(Nat→Prop)) (t:x_copy_A_T) (o2:(List Xp)):Prop:=(∃(v501:Int),∃(v502:Bool),(((e.l.length:Int))=v501)∧((decide (t.i<v501))=v502)∧(v502=false)∧((t.o)=o2)∧True)
def zit (e:Xp) (N:Nat) (P0:(Nat→Prop)) (t t':x_copy_A_T):Prop:=(∃(v501:Int),∃(v502:Bool),∃(n504:Nat),∃(x505:Xp),∃(v508:Xp),∃(v510:(List Xp)),∃(v512:Int),(((e.l.length:Int))=v501)∧((decide (t.i<v501))=v502)∧((x505)=v508)∧((t.o++[v508])=v510)∧((IntKind.i64.wrap (t.i+(1:Int)))=v512)∧(v502=true)∧(t.i=(n504:Int))∧(e.l[n504]?=some x505)∧(nodes x505≤N)∧((t.o.length+1)*3≤1099511627776)∧((v512)=t'.i)∧((v510)=t'.o)∧True)
theorem ze8 {w0:World} (e:Xp) (N:Nat) (P0:(Nat→Prop)) (IH:zaC w0 N) (o2:(List Xp)) {F:Fact} (u0:F.c 0=pI e.op) (u1:F.c 1=pI e.n) (u2:F.c 2=pLD P0 e.l) (ug0:F.g 0=pGx w0 P0 ([]:List Xp)) (ug1:F.g 1=pGx w0 P0 o2) (R:Frm) (hR:R.pm=⟨ntOf Tryz.prog 37,[],[]⟩) (J:x_copy_A_T→Prop) (m:x_copy_A_T→Nat) (hJ:J { i:=(0:Int),o:=([]:List Xp) }) (rounds:∀t,J t→ziu e N P0 t o2∨∃t',zit e N P0 t t'∧m t'<m t∧J t'):zi (KN w0) Tryz.prog F R zaw (lp Tryz.prog 37 0):=by
 refine zB (T:=x_copy_A_T) (fun t=>FL [pI e.op,pI e.n,pLD P0 e.l,pI t.i] [pGx w0 P0 ([]:List Xp),pGx w0 P0 t.o]) J m { i:=(0:Int),o:=([]:List Xp) } zQ hJ (zipA.imp ⟨z_g ⟨fun β v W h=>(zc u0 β v W).1 h,fun β v W h=>(zc u1 β v W).1 h,fun β v W h=>(zc u2 β v W).1 h,trivial⟩,z_c yy,z_c yy,z_c yy,z_c yy,z_c yy,z_c (fun β v W h=>(zc u0 β v W).1 h),z_c yy,z_c (fun β v W h=>(zc u1 β v W).1 h),z_g ⟨fun β v W h=>(zc u0 β v W).1 h,fun β v W h=>(zc u1 β v W).1 h,yy,trivial⟩,z_b ⟨fun β v W h=>(zc u0 β v W).1 h,fun β v W h=>(zc u1 β v W).1 h,fun β v W h=>(zc u2 β v W).1 h,trivial⟩,z_b ⟨yy,yy,yy,trivial⟩,z_b ⟨fun β v W h=>(zc u0 β v W).1 h,fun β v W h=>(zc u1 β v W).1 h,yy,trivial⟩,z_gq ug0 rfl,trivial⟩) rfl fun t ht=>?_
 rcases rounds t ht with hz_ | ⟨t',hz_,hm_,hj_⟩
 ·refine .inl ?_
  rcases hz_ with ⟨v501,v502,e501,e502,h503,q0,_⟩
  ·exact zgV  e N P0 IH  t.i t.o v501 v502 e501 e502 h503 o2 F u0 u1 u2 ug0 ug1 q0 R hR
 ·refine .inr ⟨t',hm_,hj_,?_⟩
  rcases hz_ with ⟨v501,v502,n504,x505,v508,v510,v512,e501,e502,e508,e510,e512,h503,s506,s507,s509,s511,q0,q1,_⟩
  ·exact zgU  e N P0 IH  t.i t.o v501 v502 n504 x505 v508 v510 v512 e501 e502 e508 e510 e512 h503 s506 s507 s509 s511 t'.i t'.o q0 q1 R hR
theorem zgT {w0:World} (e:Xp) (N:Nat) (P0:(Nat→Prop)) (IH:zaC w0 N) (o2:(List Xp)) {F:Fact} (u0:F.c 0=pI e.op) (u1:F.c 1=pI e.n) (u2:F.c 2=pLD P0 e.l) (ug0:F.g 0=pGx w0 P0 ([]:List Xp)) (ug1:F.g 1=pGx w0 P0 o2) (R:Frm) (hR:R.pm=⟨ntOf Tryz.prog 37,[],[]⟩) (hl:e.l.length≤1000000) (hN:nodes e≤N+1) (hO:e.l=o2):zi (KN w0) Tryz.prog F R zaw (lp Tryz.prog 37 0):=by
 refine ze8  e N P0 IH  o2 u0 u1 u2 ug0 ug1 R hR (fun ⟨i,o⟩=>∃k:Nat,i=(k:Int)∧k≤e.l.length∧o=e.l.take k) (fun ⟨i,o⟩=>((e.l.length:Int) - i).toNat) ⟨0,rfl,Nat.zero_le _,rfl⟩ fun t hJ=>?_
 obtain ⟨i,o⟩:=t
 dsimp only at hJ
 obtain ⟨k,hi,hk,hs⟩:=hJ
 obtain ⟨v501,e501⟩:∃v,((e.l.length:Int))=v:=⟨_,rfl⟩
 obtain ⟨v502,e502⟩:∃v,(decide (i<v501))=v:=⟨_,rfl⟩
 cases h503:v502 with
 | true =>
  obtain ⟨n504,x505,s506,s507⟩:∃(n504:Nat) (x505:Xp),i=(n504:Int)∧e.l[n504]?=some x505:=by (have dh503:=of_decide_eq_true (e502.trans h503);have hz:=e501;have hlt:k<e.l.length:=(by omega);exact ⟨k,_,hi,List.getElem?_eq_getElem hlt⟩)
  obtain ⟨v508,e508⟩:∃v,(x505)=v:=⟨_,rfl⟩
  have s509:nodes x505≤N:=by exact zu hN s507
  obtain ⟨v510,e510⟩:∃v,(o++[v508])=v:=⟨_,rfl⟩
  have s511:(o.length+1)*3≤1099511627776:=by (rw [hs,List.length_take];omega)
  obtain ⟨v512,e512⟩:∃v,(IntKind.i64.wrap (i+(1:Int)))=v:=⟨_,rfl⟩
  refine .inr ⟨⟨v512,v510⟩,⟨v501,v502,n504,x505,v508,v510,v512,e501,e502,e508,e510,e512,h503,s506,s507,s509,s511,rfl,rfl,trivial⟩,?_,?_⟩
  all_goals (have dh503:=of_decide_eq_true (e502.trans h503);have hz:=e501;have hkn:n504=k:=(by omega);subst hkn;have hlt:n504<e.l.length:=(List.getElem?_eq_some_iff.1 s507).1;have x3:v512=((n504+1:Nat):Int):=(by rw [← e512,hi,wri (by omega)];omega))
  ·show ((e.l.length:Int) - v512).toNat<((e.l.length:Int) - i).toNat
   omega
  ·exact ⟨n504+1,x3,by omega,by rw [← e510,hs,← e508];exact l_at s507⟩
 | false =>
  refine .inl (⟨v501,v502,e501,e502,h503,?_,trivial⟩)
  (have dh503:=of_decide_eq_false (e502.trans h503);have hz:=e501;have hkl:k=e.l.length:=(by omega);rw [hs,hkl,List.take_length];exact hO)
theorem zkR {w0:World} (e:Xp) (N:Nat) (P0:(Nat→Prop)) (IH:zaC w0 N) (o2:(List Xp)) (L_x_copy_A:∀R:Frm,R.pm=⟨ntOf Tryz.prog 37,[],[]⟩→zi (KN w0) Tryz.prog (FL [pI e.op,pI e.n,pLD P0 e.l,pNew w0 P0 o2] [pGx w0 P0 ([]:List Xp),pGx w0 P0 o2]) R zaw (lp Tryz.prog 37 0)):Fun (KN w0) Tryz.prog 37 [.o (.g [pI e.op,pI e.n,pLD P0 e.l])] (.o (.g [pI e.op,pI e.n,pNew w0 P0 o2])):=
 zk (zS (F:=FL [pI e.op,pI e.n,pLD P0 e.l,pNew w0 P0 o2] [pGx w0 P0 ([]:List Xp),pGx w0 P0 o2]) (C:=[]) (k:=⟨37,[.o (.g [.h 0,.h 1,.h 2])],[],.o (.g [.h 0,.h 1,.h 3]),[]⟩) ⟨[zaw],[⟨1,[.bx 7 32 [.h 0,.h 1,.k (.slice none 0 0)],.gn 901],[.bx 7 32 [.h 0,.h 1,.gr 901],.gl 901 32 3 0],[]⟩,⟨6,[.gl 901 32 3 1,.bx 1 32 [.h 0,.h 1,.gr 901],.bx 0 32 [.h 0,.h 1,.h 2]],[.bx 1 32 [.h 0,.h 1,.h 3]],[901]⟩],0⟩ [901] 0 (zg ⟨za,za,zam,zaS,trivial⟩ ⟨za8,za8,trivial⟩) trivial mixed ⟨zjP rfl,zia (by decide) rfl rfl rfl rfl rfl,trivial⟩ (fun R hR p hp s hs=>by
 have hl:zH (qu Tryz.prog 37)=[(3,lp Tryz.prog 37 0)]:=by kernel_rfl
 rw [hl] at hp
 simp only [List.mem_cons,List.not_mem_nil,or_false] at hp
 rcases hp with rfl
 ·have e:s=zaw:=(Option.some.inj hs).symm
  subst e;exact L_x_copy_A R hR) (by kernel_rfl))
theorem zmg {w0:World} {N:Nat} (IH:zaC w0 N) (P0:Nat→Prop) (e:Xp) (hN:nodes e≤N+1) (hl:e.l.length≤1000000):Fun (KN w0) Tryz.prog 37 [.o (.g [pI e.op,pI e.n,pLD P0 e.l])] (.o (.g [pI e.op,pI e.n,pNew w0 P0 e.l])):=
 zkR e N P0 IH e.l (fun R hR=>zgT e N P0 IH   e.l rfl rfl rfl rfl rfl R hR hl hN rfl)
theorem zei {w0:World}:∀N:Nat,N≤1000000→zaC w0 N
 | 0,_=>fun P x y _ h=>by have:=qk x;omega
 | N+1,hN=>fun P x y hxy h=>by subst hxy;exact zmg (zei N (by omega)) P x h (by have:=qj x;omega)
theorem zpv {w0:World} (P0:Nat→Prop) (e:Xp) (hN:nodes e≤1000000):Fun (KN w0) Tryz.prog 37 [.o (.g [pI e.op,pI e.n,pLD P0 e.l])] (.o (.g [pI e.op,pI e.n,pNew w0 P0 e.l])):=zei (nodes e) hN P0 e e rfl (Nat.le_refl _)
end Go.Proofs.YtdkofaajcpcjkaaGreatDoor
