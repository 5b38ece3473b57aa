/-
  RatioLong is proved: whatever the input, the law returns true and each argument reads as it did, where the listed variables read as listed; and the card, which ties it to the program's text.
-/
import Derived.Test.YtccjiodohphgnaaGreatDoorMgAN
import Derived.Test.YtccjiodohphgnaaGreatDoorMgAR
import Derived.Test.YtccjiodohphgnaaGreatDoorMgAV
import Derived.Test.YtccjiodohphgnaaGreatDoorCards
import Derived.Test.YtccjiodohphgnaaGreatDoorTie
import Derived.SevenTiedAt
set_option linter.unusedSimpArgs false
set_option linter.unusedVariables false
set_option maxRecDepth 100000
set_option maxHeartbeats 4000000
namespace Go.Proofs.YtccjiodohphgnaaGreatDoor
open Go.RowKit Go.Shelf
theorem zmj {r:Nat} (h:r<32):2 ^ r<4294967296:=Nat.lt_of_lt_of_le (Nat.pow_lt_pow_right (by decide) h) (by decide)
theorem zqt (n:Nat):digs (2 ^ n)=(List.replicate (n / 32+1) 0).set (n / 32) (2 ^ (n%32)):=by
 have hr:2 ^ (n%32)<4294967296:=zmj (Nat.mod_lt _ (by decide))
 have h0:0<2 ^ (n%32):=Nat.pow_pos (by decide)
 have e:(List.replicate (n / 32+1) 0).set (n / 32) (2 ^ (n%32))=List.replicate (n / 32) 0++[2 ^ (n%32)]:=by
  rw [List.replicate_succ',List.set_append_right _ _ (by simp)];simp
 rw [e]
 have hd:Dig (List.replicate (n / 32) 0++[2 ^ (n%32)]):=zbC.2 ⟨zag _,by intro x hx;rw [List.mem_singleton] at hx;omega⟩
 have hv:nval (List.replicate (n / 32) 0++[2 ^ (n%32)])=2 ^ n:=by
  rw [qB,zbE,List.length_replicate]
  simp only [nval,Nat.mul_zero,Nat.add_zero,Nat.zero_add]
  rw [show (4294967296:Nat)=2 ^ 32 by decide,← Nat.pow_mul,← Nat.pow_add,Nat.div_add_mod]
 have hc:Canon (List.replicate (n / 32) 0++[2 ^ (n%32)]):=⟨hd,by rw [List.getLast?_concat];intro e;injection e with e;omega⟩
 rw [zbh hc,hv]
theorem zpo (n k r p:Nat) (w:World) (hk:n / 32=k) (hr:n%32=r) (hp:2 ^ r=p) (hn:n<2048) :
  Calls Tryz.prog 32 #[.int .i64 (n:Int)] w (NZ ((2 ^ n:Nat):Int) w):=by
 have hp32:p<4294967296:=by rw [← hp];exact zmj (by omega)
 have hdg:=zqt n
 rw [hk,hr,hp] at hdg
 have HD:=Lib.hid hdg
 clear hdg
 have e1:(n:Int) / 32=(k:Int):=by omega
 have e2:(n:Int)%32=(r:Int):=by omega
 have hmk:=zcY (k+1) (by omega)
 have ec:((k+1:Nat):Int)=(k:Int)+1:=by omega
 rw [ec] at hmk
 clear ec
 go_enter Tryz.func32,Tryz.ntmps32
 go_upto_region 2 with fail
 have hz:(w.alloc (.cells #[.bool false,.slice none 0 0] 26)).heap.size=w.heap.size+1:=by simp
 have dk:DBk ((w.alloc (.cells #[.bool false,.slice none 0 0] 26)).alloc (.cells (madeCells #[.int .u32 0] (k+1)) 84)) (w.heap.size+1) 84 (List.replicate (k+1) 0):=by
  have:=DBk.new (w.alloc (.cells #[.bool false,.slice none 0 0] 26)) 84 (k+1)
  rw [hz] at this
  exact this
 have r0:((w.alloc (.cells #[.bool false,.slice none 0 0] 26)).alloc (.cells (madeCells #[.int .u32 0] (k+1)) 84)).cell? ⟨w.heap.size,0,none⟩=some (.bool false):=by simp [go_sem]
 have r1:((w.alloc (.cells #[.bool false,.slice none 0 0] 26)).alloc (.cells (madeCells #[.int .u32 0] (k+1)) 84)).cell? ⟨w.heap.size,1,none⟩=some (.slice none 0 0):=by simp [go_sem]
 have rf:∀i,((w.alloc (.cells #[.bool false,.slice none 0 0] 26)).alloc (.cells (madeCells #[.int .u32 0] (k+1)) 84)).frozen? ⟨w.heap.size,i,none⟩=false:=by intro i;simp [go_sem]
 have hb:Below w.heap.size w ((w.alloc (.cells #[.bool false,.slice none 0 0] 26)).alloc (.cells (madeCells #[.int .u32 0] (k+1)) 84)):=by go_grown
 generalize ((w.alloc (.cells #[.bool false,.slice none 0 0] 26)).alloc (.cells (madeCells #[.int .u32 0] (k+1)) 84))=W at *
 have hc:=dk.cell (k:=k) (by simp)
 have hf:=dk.frozen k
 have hlt:=dk.lt
 have hw:(2:Int) ^ r%4294967296=(p:Int):=by rw [show (2:Int) ^ r=((2 ^ r:Nat):Int) by simp,hp];omega
 have hset:=dk.set k p
 clear dk
 go_wp2
 rw [hw]
 have r2:(W.setCell ⟨w.heap.size+1,k,none⟩ (.int .u32 (p:Int))).cell? ⟨w.heap.size,0,none⟩=some (.bool false):=by simp [go_sem,r0]
 have r3:(W.setCell ⟨w.heap.size+1,k,none⟩ (.int .u32 (p:Int))).cell? ⟨w.heap.size,1,none⟩=some (.slice none 0 0):=by simp [go_sem,r1]
 have hs:=hset.sl (B:=(W.setCell ⟨w.heap.size+1,k,none⟩ (.int .u32 (p:Int))).heap.size) (by rw [← HD.out];exact (zR _).1) hset.lt (by simp;omega)
 rw [show ((List.replicate (k+1) 0).set k p).length=k+1 by simp,← HD.out] at hs
 obtain ⟨q0,q1⟩:=zL (.bool false) (.slice (some ⟨w.heap.size+1,0,none⟩) (k+1) (k+1)) r2 r3
 refine bodyPost_ret (v:=.agg #[.bool false,.slice (some ⟨w.heap.size+1,0,none⟩) (k+1) (k+1)]) ?_ rfl ⟨some ⟨w.heap.size+1,0,none⟩,k+1,k+1,?_,?_,?_⟩
 ·simp [results,Tryz.f32,go_sem,q0,q1]
 ·rw [decide_eq_false (Int.not_lt.2 (Int.natCast_nonneg _))]
 ·have:=hs.stored r2 r3 (.bool false) (.slice (some ⟨w.heap.size+1,0,none⟩) (k+1) (k+1))
  exact this
 ·exact ((hb.setCell (by simp) _).setCell (by simp) _).setCell (by simp) _
end Go.Proofs.YtccjiodohphgnaaGreatDoor
namespace Go.Proofs.YtccjiodohphgnaaGreatDoor
open Go.RowKit Go.Shelf
def pw (n:Int):Int:=((2 ^ n.toNat:Nat):Int)
def pR (m:Nat):Rat:=((2 ^ m:Nat):Rat)
theorem zfq (m:Nat):0<2 ^ m:=Nat.pow_pos (by decide)
theorem zeB {m k:Nat} (h:m<k):2 ^ m<2 ^ k:=Nat.pow_lt_pow_right (by decide) h
section
variable {m n:Nat}
theorem zbJ:(pR m).num=((2 ^ m:Nat):Int):=Rat.num_natCast _
theorem zbv:(pR m).den=1:=Rat.den_natCast _
theorem pR_sz {k:Nat} (h:m<k):Sz k (pR m):=by
 refine ⟨?_,?_⟩
 ·rw [zbJ,Int.natAbs_natCast];exact zeB h
 ·rw [zbv];exact Nat.one_lt_two_pow (by omega)
theorem rq_pR:rq (some (pR m))=(nz (pw (m:Int)),nz (pw 0)):=by
 show (nz (pR m).num,nz ((pR m).den:Int))=_
 rw [zbJ,zbv];rfl
theorem qq_pw (h:m<2048):qq (nz (pw (m:Int)),nz (pw 0))=some (pR m):=by
 rw [← rq_pR];exact qq_sz (pR_sz h) (Nat.le_refl _)
theorem ztk:∃n,n=2048∧big=2 ^ n:=by
 have g:∀a b n:Nat,n=a*b→2 ^ n=(2 ^ a) ^ b:=fun a b n e=>by rw [e,Nat.pow_mul]
 obtain ⟨n,hn⟩:∃n:Nat,n=32*64:=⟨_,rfl⟩
 refine ⟨n,by omega,?_⟩
 have:=g 32 64 n hn
 rw [show (2:Nat) ^ 32=4294967296 from rfl] at this
 exact this.symm
theorem zbk {k:Nat}:fitB ((2 ^ k:Nat):Int)=decide (k<2048):=by
 obtain ⟨n,hn,e⟩:=ztk
 unfold fitB
 rw [Int.natAbs_natCast,e,← hn]
 have:(2 ^ k<2 ^ n)↔k<n:=⟨fun h=>(Nat.pow_lt_pow_iff_right (a:=2) (by decide)).1 h,fun h=>zeB h⟩
 simp only [this]
theorem ztR {x k:Nat} (h:x<2 ^ k) (hk:k≤2048):fitB (x:Int)=true:=zdI (by rw [Int.natAbs_natCast];exact h) hk
theorem zs2:mulR (some (pR m)) (some (pR n))=if m+n<2048 then some (pR (m+n)) else none:=by
 unfold mulR
 dsimp only
 have e1:(pR m).num*(pR n).num=((2 ^ (m+n):Nat):Int):=by rw [zbJ,zbJ,Nat.pow_add,Int.natCast_mul]
 have e2:((pR m).den:Int)*((pR n).den:Int)=((2 ^ 0:Nat):Int):=by rw [zbv,zbv];rfl
 have e3:pR m*pR n=pR (m+n):=by unfold pR;rw [Nat.pow_add,Rat.natCast_mul]
 rw [e1,e2,zbk,zbk,e3]
 simp
theorem zwa (h:m≠n) (hm:m<2048) (hn:n<2048):(addR (some (pR m)) (some (pR n))).isSome=true:=by
 obtain ⟨k,hk,h2⟩:∃k,k≤2048∧2 ^ m+2 ^ n<2 ^ k:=by
  rcases Nat.lt_or_gt_of_ne h with h | h
  ·have h1:=zeB h
   exact ⟨n+1,hn,by rw [Nat.pow_succ];omega⟩
  ·have h1:=zeB h
   exact ⟨m+1,hm,by rw [Nat.pow_succ];omega⟩
 unfold addR
 dsimp only
 have e1:(pR m).num*((pR n).den:Int)=((2 ^ m:Nat):Int):=by rw [zbJ,zbv];simp
 have e2:(pR n).num*((pR m).den:Int)=((2 ^ n:Nat):Int):=by rw [zbJ,zbv];simp
 have e3:((pR m).den:Int)*((pR n).den:Int)=((2 ^ 0:Nat):Int):=by rw [zbv,zbv];rfl
 rw [e1,e2,e3,← Int.natCast_add,ztR h2 hk,zbk,zbk,zbk,decide_eq_true hm,decide_eq_true hn]
 rfl
theorem zsK:addR (some (pR m)) (some (pR m))=if m+1<2048 then some (pR (m+1)) else none:=by
 unfold addR
 dsimp only
 have e1:(pR m).num*((pR m).den:Int)=((2 ^ m:Nat):Int):=by rw [zbJ,zbv];simp
 have e3:((pR m).den:Int)*((pR m).den:Int)=((2 ^ 0:Nat):Int):=by rw [zbv];rfl
 have e4:((2 ^ m:Nat):Int)+((2 ^ m:Nat):Int)=((2 ^ (m+1):Nat):Int):=by rw [Nat.pow_succ];omega
 have e5:pR m+pR m=pR (m+1):=by unfold pR;rw [← Rat.natCast_add,Nat.pow_succ];congr 1;omega
 rw [e1,e3,e4,zbk,zbk,zbk,e5]
 by_cases h:m+1<2048
 ·rw [if_pos h,decide_eq_true h,decide_eq_true (show m<2048 by omega)];rfl
 ·rw [if_neg h,decide_eq_false h];simp
theorem ztY:Nat.gcd (2 ^ m) (2 ^ n)=2 ^ min m n:=by
 rcases Nat.le_total m n with h | h
 ·rw [Nat.min_eq_left h];exact Nat.gcd_eq_left (Nat.pow_dvd_pow 2 h)
 ·rw [Nat.min_eq_right h];exact Nat.gcd_eq_right (Nat.pow_dvd_pow 2 h)
theorem zsW (hm:m<2048) (hn:n<2048):divR (some (pR m)) (some (pR n))=some (pR m / pR n):=by
 have h0:(pR n).num≠0:=by rw [zbJ];have:=zfq n;omega
 unfold divR
 dsimp only
 have e1:(pR m).num*((pR n).den:Int)=((2 ^ m:Nat):Int):=by rw [zbJ,zbv];simp
 have e2:((pR m).den:Int)*(pR n).num=((2 ^ n:Nat):Int):=by rw [zbJ,zbv];simp
 rw [if_neg h0,e1,e2,zbk,zbk,decide_eq_true hm,decide_eq_true hn];rfl
theorem zwQ:rq (some (pR m / pR n))=(nz (pw ((m - min m n:Nat):Int)),nz (pw ((n - min m n:Nat):Int))):=by
 have h0:(pR n).num≠0:=by rw [zbJ];have:=zfq n;omega
 have e:=zsV (pR m) (pR n) h0
 have e1:(pR m).num*((pR n).den:Int)=((2 ^ m:Nat):Int):=by rw [zbJ,zbv];simp
 have e2:((pR m).den:Int)*(pR n).num=((2 ^ n:Nat):Int):=by rw [zbJ,zbv];simp
 rw [e1,e2] at e
 have e3:=zlR (by have:=zfq n;omega) e
 obtain ⟨a1,a2⟩:=zc7 (x:=((2 ^ m:Nat):Int)) (d:=2 ^ n) (by have:=zfq n;omega)
 rw [Int.natAbs_natCast,ztY] at a1 a2
 show (nz (pR m / pR n).num,nz ((pR m / pR n).den:Int))=_
 rw [e3,a1,a2,← Int.natCast_ediv,Nat.pow_div (by omega) (by decide),Nat.pow_div (by omega) (by decide)]
 rfl
theorem zwk (hm:m<2048) (hn:n<2048):cmpO (some (pR m)) (some (pR n))=cmpX (nz (m:Int)) (nz (n:Int)):=by
 rw [zaq (qd (by omega)) (qd (by omega))]
 show cmpQ (pR m) (pR n)=_
 have e1:(pR m).num*((pR n).den:Int)=((2 ^ m:Nat):Int):=by rw [zbJ,zbv];simp
 have e2:(pR n).num*((pR m).den:Int)=((2 ^ n:Nat):Int):=by rw [zbJ,zbv];simp
 rw [zhD,e1,e2]
 rcases Nat.lt_trichotomy m n with h | h | h
 ·have:=zeB h
  unfold cmpI
  rw [if_pos (by omega),if_pos (by omega)]
 ·subst h;unfold cmpI;simp
 ·have:=zeB h
  unfold cmpI
  rw [if_neg (by omega),if_pos (by omega),if_neg (by omega),if_pos (by omega)]
end
theorem zD {w0:World} (n:Int) (r:Raw) (hr:nz (pw n)=r) (h:0≤n∧n<2048):Fun (KN w0) Tryz.prog 32 [.o (.c (pI n))] (gN r):=by
 subst hr
 obtain ⟨m,rfl⟩:∃m:Nat,n=(m:Int):=⟨n.toNat,by omega⟩
 intro W D vs hs hf
 obtain ⟨v,rfl,hv⟩:=oka1 hs
 have e:v=.int .i64 (m:Int):=hv
 subst e
 refine (zpo m (m / 32) (m%32) (2 ^ (m%32)) W rfl rfl rfl (by omega)).mono fun e W' hr=>?_
 obtain ⟨A,k,c,rfl,h1,hb⟩:=hr
 exact ⟨_,D,rfl,⟨_,rfl,rfl,⟨A,k,c,rfl,h1⟩,trivial⟩,Kept.of hf hb⟩
end Go.Proofs.YtccjiodohphgnaaGreatDoor
namespace Go.Proofs.YtccjiodohphgnaaGreatDoor
open Go.RowKit Go.Shelf
theorem zoX {a:Int} (h0:0≤a) (h1:a<65536):∃m:Nat,IntKind.i64.wrap (a.tmod 2048)=(m:Int)∧m<2048:=by
 have e:a.tmod 2048=a%2048:=Int.tmod_eq_emod_of_nonneg h0
 rw [e,wr64 (by omega)]
 exact ⟨(a%2048).toNat,by omega,by omega⟩
theorem z8 (m n:Nat):(if (n:Int)<(m:Int) then (n:Int) else (m:Int))=((min m n:Nat):Int):=by split<;>omega
theorem z6 (m n:Nat):(if (n:Int) > (m:Int) then (n:Int) else (m:Int))=((max m n:Nat):Int):=by split<;>omega
theorem zxd {m n:Nat} (h:m<4611686018427387904) (h2:n<4611686018427387904):IntKind.i64.wrap ((m:Int)+(n:Int))=((m+n:Nat):Int):=by rw [wr64 (by omega)];omega
theorem ztf {m n:Nat} (h:n≤m) (h2:m<4611686018427387904):IntKind.i64.wrap ((m:Int) - (n:Int))=((m - n:Nat):Int):=by rw [wr64 (by omega)];omega
theorem zxe {m:Nat} (h:m<4611686018427387904):IntKind.i64.wrap ((m:Int)+1)=((m+1:Nat):Int):=by rw [wr64 (by omega)];omega
theorem zw {a b:Int} (a0:0≤a) (a1:a<65536) (b0:0≤b) (b1:b<65536):∃(m n:Nat) (A M D:Option Rat),IntKind.i64.wrap (a.tmod 2048)=(m:Int)∧IntKind.i64.wrap (b.tmod 2048)=(n:Int)∧m<2048∧n<2048 ∧
  addR (qq (nz (pw (m:Int)),nz (pw 0))) (qq (nz (pw (n:Int)),nz (pw 0)))=A∧mulR (qq (nz (pw (m:Int)),nz (pw 0))) (qq (nz (pw (n:Int)),nz (pw 0)))=M∧divR (qq (nz (pw (m:Int)),nz (pw 0))) (qq (nz (pw (n:Int)),nz (pw 0)))=D ∧
  D.isSome=true∧rq D=(nz (pw ((m - min m n:Nat):Int)),nz (pw ((n - min m n:Nat):Int)))∧cmpO (qq (nz (pw (m:Int)),nz (pw 0))) (qq (nz (pw (n:Int)),nz (pw 0)))=cmpX (nz (m:Int)) (nz (n:Int)) ∧
  A.isSome=decide (m≠n∨m+1<2048)∧(A.isSome=false→rq A=rq none)∧(m=n→m+1<2048→rq A=(nz (pw ((m+1:Nat):Int)),nz (pw 0))) ∧
  M.isSome=decide (m+n<2048)∧(M.isSome=false→rq M=rq none)∧(m+n<2048→rq M=(nz (pw ((m+n:Nat):Int)),nz (pw 0))) ∧
  IntKind.i64.wrap ((m:Int) - ((min m n:Nat):Int))=((m - min m n:Nat):Int)∧IntKind.i64.wrap ((n:Int) - ((min m n:Nat):Int))=((n - min m n:Nat):Int)∧IntKind.i64.wrap ((m:Int)+(n:Int))=((m+n:Nat):Int)∧IntKind.i64.wrap ((m:Int)+1)=((m+1:Nat):Int):=by
 obtain ⟨m,em,hm⟩:=zoX a0 a1
 obtain ⟨n,en,hn⟩:=zoX b0 b1
 have no:∀o:Option Rat,o.isSome=false→rq o=rq none:=fun o h=>by rw [Option.isSome_eq_false_iff,Option.isNone_iff_eq_none] at h;rw [h]
 refine ⟨m,n,addR (some (pR m)) (some (pR n)),mulR (some (pR m)) (some (pR n)),divR (some (pR m)) (some (pR n)),em,en,hm,hn,by rw [qq_pw hm,qq_pw hn],by rw [qq_pw hm,qq_pw hn],by rw [qq_pw hm,qq_pw hn],by rw [zsW hm hn];rfl,by rw [zsW hm hn];exact zwQ,by rw [qq_pw hm,qq_pw hn];exact zwk hm hn,?_,no _,?_,?_,no _,?_,ztf (by omega) (by omega),ztf (by omega) (by omega),zxd (by omega) (by omega),zxe (by omega)⟩
 ·by_cases h:m=n
  ·subst h
   rw [zsK]
   by_cases h2:m+1<2048
   ·rw [if_pos h2,decide_eq_true (.inr h2)];rfl
   ·rw [if_neg h2,decide_eq_false (by rintro (h3 | h3);exact h3 rfl;exact h2 h3)];rfl
  ·rw [zwa h hm hn,decide_eq_true (.inl h)]
 ·intro h h2
  subst h
  rw [zsK,if_pos h2,rq_pR]
 ·rw [zs2]
  by_cases h2:m+n<2048
  ·rw [if_pos h2,decide_eq_true h2];rfl
  ·rw [if_neg h2,decide_eq_false h2];rfl
 ·intro h2
  rw [zs2,if_pos h2,rq_pR]
theorem zlv {w0:World} (a:Int) (b:Int) (hM:∀W,Below w0.heap.size w0 W→MaxT W) (hTS:∀W,Below w0.heap.size w0 W→PowT w0.heap.size W∧SynT w0.heap.size W) (v1:Bool) (v2:Int) (v3:Int) (v4:Int) (v5:Int) (v6:Raw) (v8:Raw) (v10:Raw) (v12:Raw) (v14:RR) (v15:Bool) (v16:RR) (v17:Bool) (v18:RR) (v19:Bool) (v20:Int) (v21:Int) (v22:Raw) (v24:Int) (v25:Int) (v26:Raw) (v28:Bool) (v30:Bool) (v31:Bool) (v33:Int) (v34:Raw) (v37:Raw) (v40:Int) (v41:Bool) (v43:Int) (v44:Bool) (v46:Bool) (v48:Bool) (v50:Bool) (v53:Int) (v54:Raw) (v56:Raw) (v58:Bool) (v59:Bool) (v61:Int) (v62:Bool) (v66:Int) (v67:Raw) (v69:Raw) (v71:Bool) (e1:(true)=v1) (e2:((a:Int).tmod (2048:Int))=v2) (e3:(IntKind.i64.wrap v2)=v3) (e4:((b:Int).tmod (2048:Int))=v4) (e5:(IntKind.i64.wrap v4)=v5) (e6:(nz (pw v3))=v6) (e8:(nz (pw (0:Int)))=v8) (e10:(nz (pw v5))=v10) (e12:(nz (pw (0:Int)))=v12) (e14:(rq (mulR (qq (v6,v8)) (qq (v10,v12))))=v14) (e15:((mulR (qq (v6,v8)) (qq (v10,v12))).isSome)=v15) (e16:(rq (divR (qq (v6,v8)) (qq (v10,v12))))=v16) (e17:((divR (qq (v6,v8)) (qq (v10,v12))).isSome)=v17) (e18:(rq (addR (qq (v6,v8)) (qq (v10,v12))))=v18) (e19:((addR (qq (v6,v8)) (qq (v10,v12))).isSome)=v19) (e20:((if v5<v3 then v5 else v3))=v20) (e21:(IntKind.i64.wrap (v3 - v20))=v21) (e22:(nz (pw v21))=v22) (e24:((if v5<v3 then v5 else v3))=v24) (e25:(IntKind.i64.wrap (v5 - v24))=v25) (e26:(nz (pw v25))=v26) (e28:(!v17)=v28) (e30:(decide (v16=(v22,v26)))=v30) (e31:(!v30)=v31) (e33:(cmpO (qq (v6,v8)) (qq (v10,v12)))=v33) (e34:(nz v3)=v34) (e37:(nz v5)=v37) (e40:(cmpX v34 v37)=v40) (e41:((v33 != v40))=v41) (e43:((if v5 > v3 then v5 else v3))=v43) (e44:(decide (v43<(2047:Int)))=v44) (e46:(!(v19 == true))=v46) (e48:(!v19)=v48) (e50:((v3 == v5))=v50) (e53:(IntKind.i64.wrap (v3+(1:Int)))=v53) (e54:(nz (pw v53))=v54) (e56:(nz (pw (0:Int)))=v56) (e58:(decide (v18=(v54,v56)))=v58) (e59:(!v58)=v59) (e61:(IntKind.i64.wrap (v3+v5))=v61) (e62:(decide (v61<(2048:Int)))=v62) (e66:(IntKind.i64.wrap (v3+v5))=v66) (e67:(nz (pw v66))=v67) (e69:(nz (pw (0:Int)))=v69) (e71:(decide (v14=(v67,v69)))=v71) (s7:0≤v3∧v3<2048) (s9:0≤(0:Int)∧(0:Int)<2048) (s11:0≤v5∧v5<2048) (s13:0≤(0:Int)∧(0:Int)<2048) (s23:0≤v21∧v21<2048) (s27:0≤v25∧v25<2048) (h29:v28=false) (h32:v31=false) (s35:-9223372036854775808≤v3) (s36:v3<9223372036854775808) (s38:-9223372036854775808≤v5) (s39:v5<9223372036854775808) (h42:v41=false) (h45:v44=true) (h47:v46=false) (h49:v48=false) (h51:v50=true) (h52:v19=true) (s55:0≤v53∧v53<2048) (s57:0≤(0:Int)∧(0:Int)<2048) (h60:v59=false) (h63:v62=true) (h64:v1=true) (h65:v15=true) (s68:0≤v66∧v66<2048) (s70:0≤(0:Int)∧(0:Int)<2048):Fun (KN w0) Tryz.prog 7 [.o (.c (pV (.int .u16 a))),.o (.c (pV (.int .u16 b)))] (.o (.c (pB v71))):=
 zi (zl (F:=FL (pV (.int .u16 a)::pV (.int .u16 b)::pB v1::pV (.int .u16 v2)::pI v3::pV (.int .u16 v4)::pI v5::pB v6.1::pD v6.2::pB v8.1::pD v8.2::pB v10.1::pD v10.2::pB v12.1::pD v12.2::pB v14.1.1::pD v14.1.2::pB v14.2.1::pD v14.2.2::pB v15::pB v16.1.1::pD v16.1.2::pB v16.2.1::pD v16.2.2::pB v17::pB v18.1.1::pD v18.1.2::pB v18.2.1::pD v18.2.2::pB v19::pI v20::pI v21::pB v22.1::pD v22.2::pI v24::pI v25::pB v26.1::pD v26.2::pB v28::pB v30::pB v31::pI v33::pB v34.1::pD v34.2::pB v37.1::pD v37.2::pI v40::pB v41::pI v43::pB v44::pB v46::pB v48::pB v50::pI v53::pB v54.1::pD v54.2::pB v56.1::pD v56.2::pB v58::pB v59::pI v61::pB v62::pI v66::pB v67.1::pD v67.2::pB v69.1::pD v69.2::pB v71::[]) []) (C:=((1000001,.call ⟨10,[],[],.o (.c (.h 2)),[]⟩) ::
  (1000004,.bin .rem 48 (LF (.h 0)) (LF (.k (.int .u16 2048))) (LF (.h 3))) ::
  (1000005,.op (.cv 48 3) [LF (.h 3)] [] (LF (.h 4))) ::
  (1000007,.bin .rem 48 (LF (.h 1)) (LF (.k (.int .u16 2048))) (LF (.h 5))) ::
  (1000008,.op (.cv 48 3) [LF (.h 5)] [] (LF (.h 6))) ::
  (1000012,.call ⟨32,[.o (.c (.h 4))],[],.o (.g [.h 7,.h 8]),[]⟩) ::
  (1000013,.call ⟨32,[.o (.c (.k (.int .i64 0)))],[],.o (.g [.h 9,.h 10]),[]⟩) ::
  (1000016,.call ⟨32,[.o (.c (.h 6))],[],.o (.g [.h 11,.h 12]),[]⟩) ::
  (1000017,.call ⟨32,[.o (.c (.k (.int .i64 0)))],[],.o (.g [.h 13,.h 14]),[]⟩) ::
  (1000025,.call ⟨18,[.o (.g [.h 7,.h 8,.h 9,.h 10]),.o (.g [.h 11,.h 12,.h 13,.h 14])],[],.t [.g [.h 15,.h 16,.h 17,.h 18],.c (.h 19)],[]⟩) ::
  (1000034,.call ⟨20,[.o (.g [.h 7,.h 8,.h 9,.h 10]),.o (.g [.h 11,.h 12,.h 13,.h 14])],[],.t [.g [.h 20,.h 21,.h 22,.h 23],.c (.h 24)],[]⟩) ::
  (1000043,.call ⟨13,[.o (.g [.h 7,.h 8,.h 9,.h 10]),.o (.g [.h 11,.h 12,.h 13,.h 14])],[],.t [.g [.h 25,.h 26,.h 27,.h 28],.c (.h 29)],[]⟩) ::
  (1000053,.op (.min [3,3] 3) [LF (.h 4),LF (.h 6)] [] (LF (.h 30))) ::
  (1000054,.bin .sub 3 (LF (.h 4)) (LF (.h 30)) (LF (.h 31))) ::
  (1000055,.call ⟨32,[.o (.c (.h 31))],[],.o (.g [.h 32,.h 33]),[]⟩) ::
  (1000059,.op (.min [3,3] 3) [LF (.h 4),LF (.h 6)] [] (LF (.h 34))) ::
  (1000060,.bin .sub 3 (LF (.h 6)) (LF (.h 34)) (LF (.h 35))) ::
  (1000061,.call ⟨32,[.o (.c (.h 35))],[],.o (.g [.h 36,.h 37]),[]⟩) ::
  (1000066,.un .not (LF (.h 24)) (LF (.h 38))) ::
  (10038,.fb 38 false) ::
  (1000070,.call ⟨17,[.o (.g [.h 20,.h 21,.h 22,.h 23]),.o (.g [.h 32,.h 33,.h 36,.h 37])],[],.o (.c (.h 39)),[]⟩) ::
  (1000071,.un .not (LF (.h 39)) (LF (.h 40))) ::
  (10040,.fb 40 false) ::
  (1000076,.call ⟨22,[.o (.g [.h 7,.h 8,.h 9,.h 10]),.o (.g [.h 11,.h 12,.h 13,.h 14])],[],.o (.c (.h 41)),[]⟩) ::
  (1000078,.call ⟨34,[.o (.c (.h 4))],[],.o (.g [.h 42,.h 43]),[]⟩) ::
  (1000080,.call ⟨34,[.o (.c (.h 6))],[],.o (.g [.h 44,.h 45]),[]⟩) ::
  (1000081,.call ⟨33,[.o (.g [.h 42,.h 43]),.o (.g [.h 44,.h 45])],[],.o (.c (.h 46)),[]⟩) ::
  (1000082,.bin .neq 3 (LF (.h 41)) (LF (.h 46)) (LF (.h 47))) ::
  (10047,.fb 47 false) ::
  (1000087,.op (.max [3,3] 3) [LF (.h 4),LF (.h 6)] [] (LF (.h 48))) ::
  (1000088,.bin .lss 3 (LF (.h 48)) (LF (.k (.int .i64 2047))) (LF (.h 49))) ::
  (10049,.fb 49 true) ::
  (1000094,.bin .neq 4 (LF (.h 29)) (LF (.k (.bool true))) (LF (.h 50))) ::
  (10050,.fb 50 false) ::
  (1000097,.un .not (LF (.h 29)) (LF (.h 51))) ::
  (10051,.fb 51 false) ::
  (1000107,.bin .eql 3 (LF (.h 4)) (LF (.h 6)) (LF (.h 52))) ::
  (10052,.fb 52 true) ::
  (10029,.fb 29 true) ::
  (1000114,.bin .add 3 (LF (.h 4)) (LF (.k (.int .i64 1))) (LF (.h 53))) ::
  (1000115,.call ⟨32,[.o (.c (.h 53))],[],.o (.g [.h 54,.h 55]),[]⟩) ::
  (1000116,.call ⟨32,[.o (.c (.k (.int .i64 0)))],[],.o (.g [.h 56,.h 57]),[]⟩) ::
  (1000118,.call ⟨17,[.o (.g [.h 25,.h 26,.h 27,.h 28]),.o (.g [.h 54,.h 55,.h 56,.h 57])],[],.o (.c (.h 58)),[]⟩) ::
  (1000119,.un .not (LF (.h 58)) (LF (.h 59))) ::
  (10059,.fb 59 false) ::
  (1000123,.bin .add 3 (LF (.h 4)) (LF (.h 6)) (LF (.h 60))) ::
  (1000124,.bin .lss 3 (LF (.h 60)) (LF (.k (.int .i64 2048))) (LF (.h 61))) ::
  (10061,.fb 61 true) ::
  (10002,.fb 2 true) ::
  (10019,.fb 19 true) ::
  (1000133,.bin .add 3 (LF (.h 4)) (LF (.h 6)) (LF (.h 62))) ::
  (1000134,.call ⟨32,[.o (.c (.h 62))],[],.o (.g [.h 63,.h 64]),[]⟩) ::
  (1000135,.call ⟨32,[.o (.c (.k (.int .i64 0)))],[],.o (.g [.h 65,.h 66]),[]⟩) ::
  (1000137,.call ⟨17,[.o (.g [.h 15,.h 16,.h 17,.h 18]),.o (.g [.h 63,.h 64,.h 65,.h 66])],[],.o (.c (.h 67)),[]⟩)::[]:List (Nat×Ent))) (k:=⟨7,[.o (.c (.h 0)),.o (.c (.h 1))],[],.o (.c (.h 67)),[]⟩) 0 (zm ⟨za rfl,za rfl,za rfl,za rfl,za rfl,za rfl,za rfl,za rfl,ze,za rfl,ze,za rfl,ze,za rfl,ze,za rfl,ze,za rfl,ze,za rfl,za rfl,ze,za rfl,ze,za rfl,za rfl,ze,za rfl,ze,za rfl,za rfl,za rfl,za rfl,ze,za rfl,za rfl,za rfl,ze,za rfl,za rfl,za rfl,za rfl,za rfl,ze,za rfl,ze,za rfl,za rfl,za rfl,za rfl,za rfl,za rfl,za rfl,za rfl,za rfl,ze,za rfl,ze,za rfl,za rfl,za rfl,za rfl,za rfl,za rfl,ze,za rfl,ze,za rfl,trivial⟩) ⟨zc (qE hM hTS  v1 e1) rfl rfl rfl rfl,
  e_bin (zb rfl) zg (zb rfl) (r_ar ((zas (by decide)).trans (congrArg some e2))),
  e_op1 (zb rfl) (zb rfl) (fun W=>by rw [← e3];exact r_cvi (by kernel_rfl) (by kernel_rfl) W),
  e_bin (zb rfl) zg (zb rfl) (r_ar ((zas (by decide)).trans (congrArg some e4))),
  e_op1 (zb rfl) (zb rfl) (fun W=>by rw [← e5];exact r_cvi (by kernel_rfl) (by kernel_rfl) W),
  zc (zD v3 v6 e6 s7) rfl rfl rfl rfl,
  zc (zD (0:Int) v8 e8 s9) rfl rfl rfl rfl,
  zc (zD v5 v10 e10 s11) rfl rfl rfl rfl,
  zc (zD (0:Int) v12 e12 s13) rfl rfl rfl rfl,
  zc (zap (v6,v8) (v10,v12) v14 v15 e14 e15) rfl rfl rfl rfl,
  zc (zcD (v6,v8) (v10,v12) v16 v17 e16 e17) rfl rfl rfl rfl,
  zc (zao (v6,v8) (v10,v12) v18 v19 e18 e19) rfl rfl rfl rfl,
  e_op2 (zb rfl) (zb rfl) (zb rfl) (fun W=>by rw [← e20];exact zbd W),
  e_bin (zb rfl) (zb rfl) (zb rfl) (r_ar (congrArg some e21)),
  zc (zD v21 v22 e22 s23) rfl rfl rfl rfl,
  e_op2 (zb rfl) (zb rfl) (zb rfl) (fun W=>by rw [← e24];exact zbd W),
  e_bin (zb rfl) (zb rfl) (zb rfl) (r_ar (congrArg some e25)),
  zc (zD v25 v26 e26 s27) rfl rfl rfl rfl,
  e_un (zb rfl) (zb rfl) (fun W=>by rw [← e28];exact r_not W),
  e_fb (show pV (.bool v28)=_ by rw [h29]),
  zc (zY v16 (v22,v26) v30 e30) rfl rfl rfl rfl,
  e_un (zb rfl) (zb rfl) (fun W=>by rw [← e31];exact r_not W),
  e_fb (show pV (.bool v31)=_ by rw [h32]),
  zc (zS (v6,v8) (v10,v12) v33 e33) rfl rfl rfl rfl,
  zc (f_of v3 v34 e34 s35 s36) rfl rfl rfl rfl,
  zc (f_of v5 v37 e37 s38 s39) rfl rfl rfl rfl,
  zc (f_cmp v34 v37 v40 e40) rfl rfl rfl rfl,
  e_bin (zb rfl) (zb rfl) (zb rfl) (r_cmp (congrArg some e41)),
  e_fb (show pV (.bool v41)=_ by rw [h42]),
  e_op2 (zb rfl) (zb rfl) (zb rfl) (fun W=>by rw [← e43];exact zfY W),
  e_bin (zb rfl) zg (zb rfl) (r_cmp (congrArg some e44)),
  e_fb (show pV (.bool v44)=_ by rw [h45]),
  e_bin (zb rfl) zg (zb rfl) (fun W X Y=>by rw [← e46];exact r_bne (by kernel_rfl) W X Y),
  e_fb (show pV (.bool v46)=_ by rw [h47]),
  e_un (zb rfl) (zb rfl) (fun W=>by rw [← e48];exact r_not W),
  e_fb (show pV (.bool v48)=_ by rw [h49]),
  e_bin (zb rfl) (zb rfl) (zb rfl) (r_cmp (congrArg some e50)),
  e_fb (show pV (.bool v50)=_ by rw [h51]),
  e_fb (show pV (.bool v19)=_ by rw [h52]),
  e_bin (zb rfl) zg (zb rfl) (r_ar (congrArg some e53)),
  zc (zD v53 v54 e54 s55) rfl rfl rfl rfl,
  zc (zD (0:Int) v56 e56 s57) rfl rfl rfl rfl,
  zc (zY v18 (v54,v56) v58 e58) rfl rfl rfl rfl,
  e_un (zb rfl) (zb rfl) (fun W=>by rw [← e59];exact r_not W),
  e_fb (show pV (.bool v59)=_ by rw [h60]),
  e_bin (zb rfl) (zb rfl) (zb rfl) (r_ar (congrArg some e61)),
  e_bin (zb rfl) zg (zb rfl) (r_cmp (congrArg some e62)),
  e_fb (show pV (.bool v62)=_ by rw [h63]),
  e_fb (show pV (.bool v1)=_ by rw [h64]),
  e_fb (show pV (.bool v15)=_ by rw [h65]),
  e_bin (zb rfl) (zb rfl) (zb rfl) (r_ar (congrArg some e66)),
  zc (zD v66 v67 e67 s68) rfl rfl rfl rfl,
  zc (zD (0:Int) v69 e69 s70) rfl rfl rfl rfl,
  zc (zY v14 (v67,v69) v71 e71) rfl rfl rfl rfl,
  trivial⟩ mixed (by kernel_rfl)) rfl rfl rfl rfl
theorem zlw {w0:World} (a:Int) (b:Int) (hM:∀W,Below w0.heap.size w0 W→MaxT W) (hTS:∀W,Below w0.heap.size w0 W→PowT w0.heap.size W∧SynT w0.heap.size W) (v1:Bool) (v2:Int) (v3:Int) (v4:Int) (v5:Int) (v6:Raw) (v8:Raw) (v10:Raw) (v12:Raw) (v14:RR) (v15:Bool) (v16:RR) (v17:Bool) (v18:RR) (v19:Bool) (v20:Int) (v21:Int) (v22:Raw) (v24:Int) (v25:Int) (v26:Raw) (v28:Bool) (v30:Bool) (v31:Bool) (v33:Int) (v34:Raw) (v37:Raw) (v40:Int) (v41:Bool) (v43:Int) (v44:Bool) (v46:Bool) (v48:Bool) (v50:Bool) (v53:Int) (v54:Raw) (v56:Raw) (v58:Bool) (v59:Bool) (v61:Int) (v62:Bool) (v65:Bool) (e1:(true)=v1) (e2:((a:Int).tmod (2048:Int))=v2) (e3:(IntKind.i64.wrap v2)=v3) (e4:((b:Int).tmod (2048:Int))=v4) (e5:(IntKind.i64.wrap v4)=v5) (e6:(nz (pw v3))=v6) (e8:(nz (pw (0:Int)))=v8) (e10:(nz (pw v5))=v10) (e12:(nz (pw (0:Int)))=v12) (e14:(rq (mulR (qq (v6,v8)) (qq (v10,v12))))=v14) (e15:((mulR (qq (v6,v8)) (qq (v10,v12))).isSome)=v15) (e16:(rq (divR (qq (v6,v8)) (qq (v10,v12))))=v16) (e17:((divR (qq (v6,v8)) (qq (v10,v12))).isSome)=v17) (e18:(rq (addR (qq (v6,v8)) (qq (v10,v12))))=v18) (e19:((addR (qq (v6,v8)) (qq (v10,v12))).isSome)=v19) (e20:((if v5<v3 then v5 else v3))=v20) (e21:(IntKind.i64.wrap (v3 - v20))=v21) (e22:(nz (pw v21))=v22) (e24:((if v5<v3 then v5 else v3))=v24) (e25:(IntKind.i64.wrap (v5 - v24))=v25) (e26:(nz (pw v25))=v26) (e28:(!v17)=v28) (e30:(decide (v16=(v22,v26)))=v30) (e31:(!v30)=v31) (e33:(cmpO (qq (v6,v8)) (qq (v10,v12)))=v33) (e34:(nz v3)=v34) (e37:(nz v5)=v37) (e40:(cmpX v34 v37)=v40) (e41:((v33 != v40))=v41) (e43:((if v5 > v3 then v5 else v3))=v43) (e44:(decide (v43<(2047:Int)))=v44) (e46:(!(v19 == true))=v46) (e48:(!v19)=v48) (e50:((v3 == v5))=v50) (e53:(IntKind.i64.wrap (v3+(1:Int)))=v53) (e54:(nz (pw v53))=v54) (e56:(nz (pw (0:Int)))=v56) (e58:(decide (v18=(v54,v56)))=v58) (e59:(!v58)=v59) (e61:(IntKind.i64.wrap (v3+v5))=v61) (e62:(decide (v61<(2048:Int)))=v62) (e65:((!v15 && decide (v14=rq none)))=v65) (s7:0≤v3∧v3<2048) (s9:0≤(0:Int)∧(0:Int)<2048) (s11:0≤v5∧v5<2048) (s13:0≤(0:Int)∧(0:Int)<2048) (s23:0≤v21∧v21<2048) (s27:0≤v25∧v25<2048) (h29:v28=false) (h32:v31=false) (s35:-9223372036854775808≤v3) (s36:v3<9223372036854775808) (s38:-9223372036854775808≤v5) (s39:v5<9223372036854775808) (h42:v41=false) (h45:v44=true) (h47:v46=false) (h49:v48=false) (h51:v50=true) (h52:v19=true) (s55:0≤v53∧v53<2048) (s57:0≤(0:Int)∧(0:Int)<2048) (h60:v59=false) (h63:v62=false) (h64:v1=true):Fun (KN w0) Tryz.prog 7 [.o (.c (pV (.int .u16 a))),.o (.c (pV (.int .u16 b)))] (.o (.c (pB v65))):=
 zi (zl (F:=FL (pV (.int .u16 a)::pV (.int .u16 b)::pB v1::pV (.int .u16 v2)::pI v3::pV (.int .u16 v4)::pI v5::pB v6.1::pD v6.2::pB v8.1::pD v8.2::pB v10.1::pD v10.2::pB v12.1::pD v12.2::pB v14.1.1::pD v14.1.2::pB v14.2.1::pD v14.2.2::pB v15::pB v16.1.1::pD v16.1.2::pB v16.2.1::pD v16.2.2::pB v17::pB v18.1.1::pD v18.1.2::pB v18.2.1::pD v18.2.2::pB v19::pI v20::pI v21::pB v22.1::pD v22.2::pI v24::pI v25::pB v26.1::pD v26.2::pB v28::pB v30::pB v31::pI v33::pB v34.1::pD v34.2::pB v37.1::pD v37.2::pI v40::pB v41::pI v43::pB v44::pB v46::pB v48::pB v50::pI v53::pB v54.1::pD v54.2::pB v56.1::pD v56.2::pB v58::pB v59::pI v61::pB v62::pB v65::[]) []) (C:=((1000001,.call ⟨10,[],[],.o (.c (.h 2)),[]⟩) ::
  (1000004,.bin .rem 48 (LF (.h 0)) (LF (.k (.int .u16 2048))) (LF (.h 3))) ::
  (1000005,.op (.cv 48 3) [LF (.h 3)] [] (LF (.h 4))) ::
  (1000007,.bin .rem 48 (LF (.h 1)) (LF (.k (.int .u16 2048))) (LF (.h 5))) ::
  (1000008,.op (.cv 48 3) [LF (.h 5)] [] (LF (.h 6))) ::
  (1000012,.call ⟨32,[.o (.c (.h 4))],[],.o (.g [.h 7,.h 8]),[]⟩) ::
  (1000013,.call ⟨32,[.o (.c (.k (.int .i64 0)))],[],.o (.g [.h 9,.h 10]),[]⟩) ::
  (1000016,.call ⟨32,[.o (.c (.h 6))],[],.o (.g [.h 11,.h 12]),[]⟩) ::
  (1000017,.call ⟨32,[.o (.c (.k (.int .i64 0)))],[],.o (.g [.h 13,.h 14]),[]⟩) ::
  (1000025,.call ⟨18,[.o (.g [.h 7,.h 8,.h 9,.h 10]),.o (.g [.h 11,.h 12,.h 13,.h 14])],[],.t [.g [.h 15,.h 16,.h 17,.h 18],.c (.h 19)],[]⟩) ::
  (1000034,.call ⟨20,[.o (.g [.h 7,.h 8,.h 9,.h 10]),.o (.g [.h 11,.h 12,.h 13,.h 14])],[],.t [.g [.h 20,.h 21,.h 22,.h 23],.c (.h 24)],[]⟩) ::
  (1000043,.call ⟨13,[.o (.g [.h 7,.h 8,.h 9,.h 10]),.o (.g [.h 11,.h 12,.h 13,.h 14])],[],.t [.g [.h 25,.h 26,.h 27,.h 28],.c (.h 29)],[]⟩) ::
  (1000053,.op (.min [3,3] 3) [LF (.h 4),LF (.h 6)] [] (LF (.h 30))) ::
  (1000054,.bin .sub 3 (LF (.h 4)) (LF (.h 30)) (LF (.h 31))) ::
  (1000055,.call ⟨32,[.o (.c (.h 31))],[],.o (.g [.h 32,.h 33]),[]⟩) ::
  (1000059,.op (.min [3,3] 3) [LF (.h 4),LF (.h 6)] [] (LF (.h 34))) ::
  (1000060,.bin .sub 3 (LF (.h 6)) (LF (.h 34)) (LF (.h 35))) ::
  (1000061,.call ⟨32,[.o (.c (.h 35))],[],.o (.g [.h 36,.h 37]),[]⟩) ::
  (1000066,.un .not (LF (.h 24)) (LF (.h 38))) ::
  (10038,.fb 38 false) ::
  (1000070,.call ⟨17,[.o (.g [.h 20,.h 21,.h 22,.h 23]),.o (.g [.h 32,.h 33,.h 36,.h 37])],[],.o (.c (.h 39)),[]⟩) ::
  (1000071,.un .not (LF (.h 39)) (LF (.h 40))) ::
  (10040,.fb 40 false) ::
  (1000076,.call ⟨22,[.o (.g [.h 7,.h 8,.h 9,.h 10]),.o (.g [.h 11,.h 12,.h 13,.h 14])],[],.o (.c (.h 41)),[]⟩) ::
  (1000078,.call ⟨34,[.o (.c (.h 4))],[],.o (.g [.h 42,.h 43]),[]⟩) ::
  (1000080,.call ⟨34,[.o (.c (.h 6))],[],.o (.g [.h 44,.h 45]),[]⟩) ::
  (1000081,.call ⟨33,[.o (.g [.h 42,.h 43]),.o (.g [.h 44,.h 45])],[],.o (.c (.h 46)),[]⟩) ::
  (1000082,.bin .neq 3 (LF (.h 41)) (LF (.h 46)) (LF (.h 47))) ::
  (10047,.fb 47 false) ::
  (1000087,.op (.max [3,3] 3) [LF (.h 4),LF (.h 6)] [] (LF (.h 48))) ::
  (1000088,.bin .lss 3 (LF (.h 48)) (LF (.k (.int .i64 2047))) (LF (.h 49))) ::
  (10049,.fb 49 true) ::
  (1000094,.bin .neq 4 (LF (.h 29)) (LF (.k (.bool true))) (LF (.h 50))) ::
  (10050,.fb 50 false) ::
  (1000097,.un .not (LF (.h 29)) (LF (.h 51))) ::
  (10051,.fb 51 false) ::
  (1000107,.bin .eql 3 (LF (.h 4)) (LF (.h 6)) (LF (.h 52))) ::
  (10052,.fb 52 true) ::
  (10029,.fb 29 true) ::
  (1000114,.bin .add 3 (LF (.h 4)) (LF (.k (.int .i64 1))) (LF (.h 53))) ::
  (1000115,.call ⟨32,[.o (.c (.h 53))],[],.o (.g [.h 54,.h 55]),[]⟩) ::
  (1000116,.call ⟨32,[.o (.c (.k (.int .i64 0)))],[],.o (.g [.h 56,.h 57]),[]⟩) ::
  (1000118,.call ⟨17,[.o (.g [.h 25,.h 26,.h 27,.h 28]),.o (.g [.h 54,.h 55,.h 56,.h 57])],[],.o (.c (.h 58)),[]⟩) ::
  (1000119,.un .not (LF (.h 58)) (LF (.h 59))) ::
  (10059,.fb 59 false) ::
  (1000123,.bin .add 3 (LF (.h 4)) (LF (.h 6)) (LF (.h 60))) ::
  (1000124,.bin .lss 3 (LF (.h 60)) (LF (.k (.int .i64 2048))) (LF (.h 61))) ::
  (10061,.fb 61 false) ::
  (10002,.fb 2 true) ::
  (1000129,.call ⟨35,[.o (.g [.h 15,.h 16,.h 17,.h 18]),.o (.c (.h 19))],[],.o (.c (.h 62)),[]⟩)::[]:List (Nat×Ent))) (k:=⟨7,[.o (.c (.h 0)),.o (.c (.h 1))],[],.o (.c (.h 62)),[]⟩) 0 (zm ⟨za rfl,za rfl,za rfl,za rfl,za rfl,za rfl,za rfl,za rfl,ze,za rfl,ze,za rfl,ze,za rfl,ze,za rfl,ze,za rfl,ze,za rfl,za rfl,ze,za rfl,ze,za rfl,za rfl,ze,za rfl,ze,za rfl,za rfl,za rfl,za rfl,ze,za rfl,za rfl,za rfl,ze,za rfl,za rfl,za rfl,za rfl,za rfl,ze,za rfl,ze,za rfl,za rfl,za rfl,za rfl,za rfl,za rfl,za rfl,za rfl,za rfl,ze,za rfl,ze,za rfl,za rfl,za rfl,za rfl,za rfl,trivial⟩) ⟨zc (qE hM hTS  v1 e1) rfl rfl rfl rfl,
  e_bin (zb rfl) zg (zb rfl) (r_ar ((zas (by decide)).trans (congrArg some e2))),
  e_op1 (zb rfl) (zb rfl) (fun W=>by rw [← e3];exact r_cvi (by kernel_rfl) (by kernel_rfl) W),
  e_bin (zb rfl) zg (zb rfl) (r_ar ((zas (by decide)).trans (congrArg some e4))),
  e_op1 (zb rfl) (zb rfl) (fun W=>by rw [← e5];exact r_cvi (by kernel_rfl) (by kernel_rfl) W),
  zc (zD v3 v6 e6 s7) rfl rfl rfl rfl,
  zc (zD (0:Int) v8 e8 s9) rfl rfl rfl rfl,
  zc (zD v5 v10 e10 s11) rfl rfl rfl rfl,
  zc (zD (0:Int) v12 e12 s13) rfl rfl rfl rfl,
  zc (zap (v6,v8) (v10,v12) v14 v15 e14 e15) rfl rfl rfl rfl,
  zc (zcD (v6,v8) (v10,v12) v16 v17 e16 e17) rfl rfl rfl rfl,
  zc (zao (v6,v8) (v10,v12) v18 v19 e18 e19) rfl rfl rfl rfl,
  e_op2 (zb rfl) (zb rfl) (zb rfl) (fun W=>by rw [← e20];exact zbd W),
  e_bin (zb rfl) (zb rfl) (zb rfl) (r_ar (congrArg some e21)),
  zc (zD v21 v22 e22 s23) rfl rfl rfl rfl,
  e_op2 (zb rfl) (zb rfl) (zb rfl) (fun W=>by rw [← e24];exact zbd W),
  e_bin (zb rfl) (zb rfl) (zb rfl) (r_ar (congrArg some e25)),
  zc (zD v25 v26 e26 s27) rfl rfl rfl rfl,
  e_un (zb rfl) (zb rfl) (fun W=>by rw [← e28];exact r_not W),
  e_fb (show pV (.bool v28)=_ by rw [h29]),
  zc (zY v16 (v22,v26) v30 e30) rfl rfl rfl rfl,
  e_un (zb rfl) (zb rfl) (fun W=>by rw [← e31];exact r_not W),
  e_fb (show pV (.bool v31)=_ by rw [h32]),
  zc (zS (v6,v8) (v10,v12) v33 e33) rfl rfl rfl rfl,
  zc (f_of v3 v34 e34 s35 s36) rfl rfl rfl rfl,
  zc (f_of v5 v37 e37 s38 s39) rfl rfl rfl rfl,
  zc (f_cmp v34 v37 v40 e40) rfl rfl rfl rfl,
  e_bin (zb rfl) (zb rfl) (zb rfl) (r_cmp (congrArg some e41)),
  e_fb (show pV (.bool v41)=_ by rw [h42]),
  e_op2 (zb rfl) (zb rfl) (zb rfl) (fun W=>by rw [← e43];exact zfY W),
  e_bin (zb rfl) zg (zb rfl) (r_cmp (congrArg some e44)),
  e_fb (show pV (.bool v44)=_ by rw [h45]),
  e_bin (zb rfl) zg (zb rfl) (fun W X Y=>by rw [← e46];exact r_bne (by kernel_rfl) W X Y),
  e_fb (show pV (.bool v46)=_ by rw [h47]),
  e_un (zb rfl) (zb rfl) (fun W=>by rw [← e48];exact r_not W),
  e_fb (show pV (.bool v48)=_ by rw [h49]),
  e_bin (zb rfl) (zb rfl) (zb rfl) (r_cmp (congrArg some e50)),
  e_fb (show pV (.bool v50)=_ by rw [h51]),
  e_fb (show pV (.bool v19)=_ by rw [h52]),
  e_bin (zb rfl) zg (zb rfl) (r_ar (congrArg some e53)),
  zc (zD v53 v54 e54 s55) rfl rfl rfl rfl,
  zc (zD (0:Int) v56 e56 s57) rfl rfl rfl rfl,
  zc (zY v18 (v54,v56) v58 e58) rfl rfl rfl rfl,
  e_un (zb rfl) (zb rfl) (fun W=>by rw [← e59];exact r_not W),
  e_fb (show pV (.bool v59)=_ by rw [h60]),
  e_bin (zb rfl) (zb rfl) (zb rfl) (r_ar (congrArg some e61)),
  e_bin (zb rfl) zg (zb rfl) (r_cmp (congrArg some e62)),
  e_fb (show pV (.bool v62)=_ by rw [h63]),
  e_fb (show pV (.bool v1)=_ by rw [h64]),
  zc (zdt v14 v15 v65 e65) rfl rfl rfl rfl,
  trivial⟩ mixed (by kernel_rfl)) rfl rfl rfl rfl
theorem zlx {w0:World} (a:Int) (b:Int) (hM:∀W,Below w0.heap.size w0 W→MaxT W) (hTS:∀W,Below w0.heap.size w0 W→PowT w0.heap.size W∧SynT w0.heap.size W) (v1:Bool) (v2:Int) (v3:Int) (v4:Int) (v5:Int) (v6:Raw) (v8:Raw) (v10:Raw) (v12:Raw) (v14:RR) (v15:Bool) (v16:RR) (v17:Bool) (v18:RR) (v19:Bool) (v20:Int) (v21:Int) (v22:Raw) (v24:Int) (v25:Int) (v26:Raw) (v28:Bool) (v30:Bool) (v31:Bool) (v33:Int) (v34:Raw) (v37:Raw) (v40:Int) (v41:Bool) (v43:Int) (v44:Bool) (v46:Bool) (v48:Bool) (v50:Bool) (v52:Int) (v53:Bool) (v57:Int) (v58:Raw) (v60:Raw) (v62:Bool) (e1:(true)=v1) (e2:((a:Int).tmod (2048:Int))=v2) (e3:(IntKind.i64.wrap v2)=v3) (e4:((b:Int).tmod (2048:Int))=v4) (e5:(IntKind.i64.wrap v4)=v5) (e6:(nz (pw v3))=v6) (e8:(nz (pw (0:Int)))=v8) (e10:(nz (pw v5))=v10) (e12:(nz (pw (0:Int)))=v12) (e14:(rq (mulR (qq (v6,v8)) (qq (v10,v12))))=v14) (e15:((mulR (qq (v6,v8)) (qq (v10,v12))).isSome)=v15) (e16:(rq (divR (qq (v6,v8)) (qq (v10,v12))))=v16) (e17:((divR (qq (v6,v8)) (qq (v10,v12))).isSome)=v17) (e18:(rq (addR (qq (v6,v8)) (qq (v10,v12))))=v18) (e19:((addR (qq (v6,v8)) (qq (v10,v12))).isSome)=v19) (e20:((if v5<v3 then v5 else v3))=v20) (e21:(IntKind.i64.wrap (v3 - v20))=v21) (e22:(nz (pw v21))=v22) (e24:((if v5<v3 then v5 else v3))=v24) (e25:(IntKind.i64.wrap (v5 - v24))=v25) (e26:(nz (pw v25))=v26) (e28:(!v17)=v28) (e30:(decide (v16=(v22,v26)))=v30) (e31:(!v30)=v31) (e33:(cmpO (qq (v6,v8)) (qq (v10,v12)))=v33) (e34:(nz v3)=v34) (e37:(nz v5)=v37) (e40:(cmpX v34 v37)=v40) (e41:((v33 != v40))=v41) (e43:((if v5 > v3 then v5 else v3))=v43) (e44:(decide (v43<(2047:Int)))=v44) (e46:(!(v19 == true))=v46) (e48:(!v19)=v48) (e50:((v3 == v5))=v50) (e52:(IntKind.i64.wrap (v3+v5))=v52) (e53:(decide (v52<(2048:Int)))=v53) (e57:(IntKind.i64.wrap (v3+v5))=v57) (e58:(nz (pw v57))=v58) (e60:(nz (pw (0:Int)))=v60) (e62:(decide (v14=(v58,v60)))=v62) (s7:0≤v3∧v3<2048) (s9:0≤(0:Int)∧(0:Int)<2048) (s11:0≤v5∧v5<2048) (s13:0≤(0:Int)∧(0:Int)<2048) (s23:0≤v21∧v21<2048) (s27:0≤v25∧v25<2048) (h29:v28=false) (h32:v31=false) (s35:-9223372036854775808≤v3) (s36:v3<9223372036854775808) (s38:-9223372036854775808≤v5) (s39:v5<9223372036854775808) (h42:v41=false) (h45:v44=true) (h47:v46=false) (h49:v48=false) (h51:v50=false) (h54:v53=true) (h55:v1=true) (h56:v15=true) (s59:0≤v57∧v57<2048) (s61:0≤(0:Int)∧(0:Int)<2048):Fun (KN w0) Tryz.prog 7 [.o (.c (pV (.int .u16 a))),.o (.c (pV (.int .u16 b)))] (.o (.c (pB v62))):=
 zi (zl (F:=FL (pV (.int .u16 a)::pV (.int .u16 b)::pB v1::pV (.int .u16 v2)::pI v3::pV (.int .u16 v4)::pI v5::pB v6.1::pD v6.2::pB v8.1::pD v8.2::pB v10.1::pD v10.2::pB v12.1::pD v12.2::pB v14.1.1::pD v14.1.2::pB v14.2.1::pD v14.2.2::pB v15::pB v16.1.1::pD v16.1.2::pB v16.2.1::pD v16.2.2::pB v17::pB v18.1.1::pD v18.1.2::pB v18.2.1::pD v18.2.2::pB v19::pI v20::pI v21::pB v22.1::pD v22.2::pI v24::pI v25::pB v26.1::pD v26.2::pB v28::pB v30::pB v31::pI v33::pB v34.1::pD v34.2::pB v37.1::pD v37.2::pI v40::pB v41::pI v43::pB v44::pB v46::pB v48::pB v50::pI v52::pB v53::pI v57::pB v58.1::pD v58.2::pB v60.1::pD v60.2::pB v62::[]) []) (C:=((1000001,.call ⟨10,[],[],.o (.c (.h 2)),[]⟩) ::
  (1000004,.bin .rem 48 (LF (.h 0)) (LF (.k (.int .u16 2048))) (LF (.h 3))) ::
  (1000005,.op (.cv 48 3) [LF (.h 3)] [] (LF (.h 4))) ::
  (1000007,.bin .rem 48 (LF (.h 1)) (LF (.k (.int .u16 2048))) (LF (.h 5))) ::
  (1000008,.op (.cv 48 3) [LF (.h 5)] [] (LF (.h 6))) ::
  (1000012,.call ⟨32,[.o (.c (.h 4))],[],.o (.g [.h 7,.h 8]),[]⟩) ::
  (1000013,.call ⟨32,[.o (.c (.k (.int .i64 0)))],[],.o (.g [.h 9,.h 10]),[]⟩) ::
  (1000016,.call ⟨32,[.o (.c (.h 6))],[],.o (.g [.h 11,.h 12]),[]⟩) ::
  (1000017,.call ⟨32,[.o (.c (.k (.int .i64 0)))],[],.o (.g [.h 13,.h 14]),[]⟩) ::
  (1000025,.call ⟨18,[.o (.g [.h 7,.h 8,.h 9,.h 10]),.o (.g [.h 11,.h 12,.h 13,.h 14])],[],.t [.g [.h 15,.h 16,.h 17,.h 18],.c (.h 19)],[]⟩) ::
  (1000034,.call ⟨20,[.o (.g [.h 7,.h 8,.h 9,.h 10]),.o (.g [.h 11,.h 12,.h 13,.h 14])],[],.t [.g [.h 20,.h 21,.h 22,.h 23],.c (.h 24)],[]⟩) ::
  (1000043,.call ⟨13,[.o (.g [.h 7,.h 8,.h 9,.h 10]),.o (.g [.h 11,.h 12,.h 13,.h 14])],[],.t [.g [.h 25,.h 26,.h 27,.h 28],.c (.h 29)],[]⟩) ::
  (1000053,.op (.min [3,3] 3) [LF (.h 4),LF (.h 6)] [] (LF (.h 30))) ::
  (1000054,.bin .sub 3 (LF (.h 4)) (LF (.h 30)) (LF (.h 31))) ::
  (1000055,.call ⟨32,[.o (.c (.h 31))],[],.o (.g [.h 32,.h 33]),[]⟩) ::
  (1000059,.op (.min [3,3] 3) [LF (.h 4),LF (.h 6)] [] (LF (.h 34))) ::
  (1000060,.bin .sub 3 (LF (.h 6)) (LF (.h 34)) (LF (.h 35))) ::
  (1000061,.call ⟨32,[.o (.c (.h 35))],[],.o (.g [.h 36,.h 37]),[]⟩) ::
  (1000066,.un .not (LF (.h 24)) (LF (.h 38))) ::
  (10038,.fb 38 false) ::
  (1000070,.call ⟨17,[.o (.g [.h 20,.h 21,.h 22,.h 23]),.o (.g [.h 32,.h 33,.h 36,.h 37])],[],.o (.c (.h 39)),[]⟩) ::
  (1000071,.un .not (LF (.h 39)) (LF (.h 40))) ::
  (10040,.fb 40 false) ::
  (1000076,.call ⟨22,[.o (.g [.h 7,.h 8,.h 9,.h 10]),.o (.g [.h 11,.h 12,.h 13,.h 14])],[],.o (.c (.h 41)),[]⟩) ::
  (1000078,.call ⟨34,[.o (.c (.h 4))],[],.o (.g [.h 42,.h 43]),[]⟩) ::
  (1000080,.call ⟨34,[.o (.c (.h 6))],[],.o (.g [.h 44,.h 45]),[]⟩) ::
  (1000081,.call ⟨33,[.o (.g [.h 42,.h 43]),.o (.g [.h 44,.h 45])],[],.o (.c (.h 46)),[]⟩) ::
  (1000082,.bin .neq 3 (LF (.h 41)) (LF (.h 46)) (LF (.h 47))) ::
  (10047,.fb 47 false) ::
  (1000087,.op (.max [3,3] 3) [LF (.h 4),LF (.h 6)] [] (LF (.h 48))) ::
  (1000088,.bin .lss 3 (LF (.h 48)) (LF (.k (.int .i64 2047))) (LF (.h 49))) ::
  (10049,.fb 49 true) ::
  (1000094,.bin .neq 4 (LF (.h 29)) (LF (.k (.bool true))) (LF (.h 50))) ::
  (10050,.fb 50 false) ::
  (1000097,.un .not (LF (.h 29)) (LF (.h 51))) ::
  (10051,.fb 51 false) ::
  (1000107,.bin .eql 3 (LF (.h 4)) (LF (.h 6)) (LF (.h 52))) ::
  (10052,.fb 52 false) ::
  (1000123,.bin .add 3 (LF (.h 4)) (LF (.h 6)) (LF (.h 53))) ::
  (1000124,.bin .lss 3 (LF (.h 53)) (LF (.k (.int .i64 2048))) (LF (.h 54))) ::
  (10054,.fb 54 true) ::
  (10002,.fb 2 true) ::
  (10019,.fb 19 true) ::
  (1000133,.bin .add 3 (LF (.h 4)) (LF (.h 6)) (LF (.h 55))) ::
  (1000134,.call ⟨32,[.o (.c (.h 55))],[],.o (.g [.h 56,.h 57]),[]⟩) ::
  (1000135,.call ⟨32,[.o (.c (.k (.int .i64 0)))],[],.o (.g [.h 58,.h 59]),[]⟩) ::
  (1000137,.call ⟨17,[.o (.g [.h 15,.h 16,.h 17,.h 18]),.o (.g [.h 56,.h 57,.h 58,.h 59])],[],.o (.c (.h 60)),[]⟩)::[]:List (Nat×Ent))) (k:=⟨7,[.o (.c (.h 0)),.o (.c (.h 1))],[],.o (.c (.h 60)),[]⟩) 0 (zm ⟨za rfl,za rfl,za rfl,za rfl,za rfl,za rfl,za rfl,za rfl,ze,za rfl,ze,za rfl,ze,za rfl,ze,za rfl,ze,za rfl,ze,za rfl,za rfl,ze,za rfl,ze,za rfl,za rfl,ze,za rfl,ze,za rfl,za rfl,za rfl,za rfl,ze,za rfl,za rfl,za rfl,ze,za rfl,za rfl,za rfl,za rfl,za rfl,ze,za rfl,ze,za rfl,za rfl,za rfl,za rfl,za rfl,za rfl,za rfl,za rfl,za rfl,za rfl,za rfl,ze,za rfl,ze,za rfl,trivial⟩) ⟨zc (qE hM hTS  v1 e1) rfl rfl rfl rfl,
  e_bin (zb rfl) zg (zb rfl) (r_ar ((zas (by decide)).trans (congrArg some e2))),
  e_op1 (zb rfl) (zb rfl) (fun W=>by rw [← e3];exact r_cvi (by kernel_rfl) (by kernel_rfl) W),
  e_bin (zb rfl) zg (zb rfl) (r_ar ((zas (by decide)).trans (congrArg some e4))),
  e_op1 (zb rfl) (zb rfl) (fun W=>by rw [← e5];exact r_cvi (by kernel_rfl) (by kernel_rfl) W),
  zc (zD v3 v6 e6 s7) rfl rfl rfl rfl,
  zc (zD (0:Int) v8 e8 s9) rfl rfl rfl rfl,
  zc (zD v5 v10 e10 s11) rfl rfl rfl rfl,
  zc (zD (0:Int) v12 e12 s13) rfl rfl rfl rfl,
  zc (zap (v6,v8) (v10,v12) v14 v15 e14 e15) rfl rfl rfl rfl,
  zc (zcD (v6,v8) (v10,v12) v16 v17 e16 e17) rfl rfl rfl rfl,
  zc (zao (v6,v8) (v10,v12) v18 v19 e18 e19) rfl rfl rfl rfl,
  e_op2 (zb rfl) (zb rfl) (zb rfl) (fun W=>by rw [← e20];exact zbd W),
  e_bin (zb rfl) (zb rfl) (zb rfl) (r_ar (congrArg some e21)),
  zc (zD v21 v22 e22 s23) rfl rfl rfl rfl,
  e_op2 (zb rfl) (zb rfl) (zb rfl) (fun W=>by rw [← e24];exact zbd W),
  e_bin (zb rfl) (zb rfl) (zb rfl) (r_ar (congrArg some e25)),
  zc (zD v25 v26 e26 s27) rfl rfl rfl rfl,
  e_un (zb rfl) (zb rfl) (fun W=>by rw [← e28];exact r_not W),
  e_fb (show pV (.bool v28)=_ by rw [h29]),
  zc (zY v16 (v22,v26) v30 e30) rfl rfl rfl rfl,
  e_un (zb rfl) (zb rfl) (fun W=>by rw [← e31];exact r_not W),
  e_fb (show pV (.bool v31)=_ by rw [h32]),
  zc (zS (v6,v8) (v10,v12) v33 e33) rfl rfl rfl rfl,
  zc (f_of v3 v34 e34 s35 s36) rfl rfl rfl rfl,
  zc (f_of v5 v37 e37 s38 s39) rfl rfl rfl rfl,
  zc (f_cmp v34 v37 v40 e40) rfl rfl rfl rfl,
  e_bin (zb rfl) (zb rfl) (zb rfl) (r_cmp (congrArg some e41)),
  e_fb (show pV (.bool v41)=_ by rw [h42]),
  e_op2 (zb rfl) (zb rfl) (zb rfl) (fun W=>by rw [← e43];exact zfY W),
  e_bin (zb rfl) zg (zb rfl) (r_cmp (congrArg some e44)),
  e_fb (show pV (.bool v44)=_ by rw [h45]),
  e_bin (zb rfl) zg (zb rfl) (fun W X Y=>by rw [← e46];exact r_bne (by kernel_rfl) W X Y),
  e_fb (show pV (.bool v46)=_ by rw [h47]),
  e_un (zb rfl) (zb rfl) (fun W=>by rw [← e48];exact r_not W),
  e_fb (show pV (.bool v48)=_ by rw [h49]),
  e_bin (zb rfl) (zb rfl) (zb rfl) (r_cmp (congrArg some e50)),
  e_fb (show pV (.bool v50)=_ by rw [h51]),
  e_bin (zb rfl) (zb rfl) (zb rfl) (r_ar (congrArg some e52)),
  e_bin (zb rfl) zg (zb rfl) (r_cmp (congrArg some e53)),
  e_fb (show pV (.bool v53)=_ by rw [h54]),
  e_fb (show pV (.bool v1)=_ by rw [h55]),
  e_fb (show pV (.bool v15)=_ by rw [h56]),
  e_bin (zb rfl) (zb rfl) (zb rfl) (r_ar (congrArg some e57)),
  zc (zD v57 v58 e58 s59) rfl rfl rfl rfl,
  zc (zD (0:Int) v60 e60 s61) rfl rfl rfl rfl,
  zc (zY v14 (v58,v60) v62 e62) rfl rfl rfl rfl,
  trivial⟩ mixed (by kernel_rfl)) rfl rfl rfl rfl
theorem zly {w0:World} (a:Int) (b:Int) (hM:∀W,Below w0.heap.size w0 W→MaxT W) (hTS:∀W,Below w0.heap.size w0 W→PowT w0.heap.size W∧SynT w0.heap.size W) (v1:Bool) (v2:Int) (v3:Int) (v4:Int) (v5:Int) (v6:Raw) (v8:Raw) (v10:Raw) (v12:Raw) (v14:RR) (v15:Bool) (v16:RR) (v17:Bool) (v18:RR) (v19:Bool) (v20:Int) (v21:Int) (v22:Raw) (v24:Int) (v25:Int) (v26:Raw) (v28:Bool) (v30:Bool) (v31:Bool) (v33:Int) (v34:Raw) (v37:Raw) (v40:Int) (v41:Bool) (v43:Int) (v44:Bool) (v46:Bool) (v48:Bool) (v50:Bool) (v52:Int) (v53:Bool) (v56:Bool) (e1:(true)=v1) (e2:((a:Int).tmod (2048:Int))=v2) (e3:(IntKind.i64.wrap v2)=v3) (e4:((b:Int).tmod (2048:Int))=v4) (e5:(IntKind.i64.wrap v4)=v5) (e6:(nz (pw v3))=v6) (e8:(nz (pw (0:Int)))=v8) (e10:(nz (pw v5))=v10) (e12:(nz (pw (0:Int)))=v12) (e14:(rq (mulR (qq (v6,v8)) (qq (v10,v12))))=v14) (e15:((mulR (qq (v6,v8)) (qq (v10,v12))).isSome)=v15) (e16:(rq (divR (qq (v6,v8)) (qq (v10,v12))))=v16) (e17:((divR (qq (v6,v8)) (qq (v10,v12))).isSome)=v17) (e18:(rq (addR (qq (v6,v8)) (qq (v10,v12))))=v18) (e19:((addR (qq (v6,v8)) (qq (v10,v12))).isSome)=v19) (e20:((if v5<v3 then v5 else v3))=v20) (e21:(IntKind.i64.wrap (v3 - v20))=v21) (e22:(nz (pw v21))=v22) (e24:((if v5<v3 then v5 else v3))=v24) (e25:(IntKind.i64.wrap (v5 - v24))=v25) (e26:(nz (pw v25))=v26) (e28:(!v17)=v28) (e30:(decide (v16=(v22,v26)))=v30) (e31:(!v30)=v31) (e33:(cmpO (qq (v6,v8)) (qq (v10,v12)))=v33) (e34:(nz v3)=v34) (e37:(nz v5)=v37) (e40:(cmpX v34 v37)=v40) (e41:((v33 != v40))=v41) (e43:((if v5 > v3 then v5 else v3))=v43) (e44:(decide (v43<(2047:Int)))=v44) (e46:(!(v19 == true))=v46) (e48:(!v19)=v48) (e50:((v3 == v5))=v50) (e52:(IntKind.i64.wrap (v3+v5))=v52) (e53:(decide (v52<(2048:Int)))=v53) (e56:((!v15 && decide (v14=rq none)))=v56) (s7:0≤v3∧v3<2048) (s9:0≤(0:Int)∧(0:Int)<2048) (s11:0≤v5∧v5<2048) (s13:0≤(0:Int)∧(0:Int)<2048) (s23:0≤v21∧v21<2048) (s27:0≤v25∧v25<2048) (h29:v28=false) (h32:v31=false) (s35:-9223372036854775808≤v3) (s36:v3<9223372036854775808) (s38:-9223372036854775808≤v5) (s39:v5<9223372036854775808) (h42:v41=false) (h45:v44=true) (h47:v46=false) (h49:v48=false) (h51:v50=false) (h54:v53=false) (h55:v1=true):Fun (KN w0) Tryz.prog 7 [.o (.c (pV (.int .u16 a))),.o (.c (pV (.int .u16 b)))] (.o (.c (pB v56))):=
 zi (zl (F:=FL [pV (.int .u16 a),pV (.int .u16 b),pB v1,pV (.int .u16 v2),pI v3,pV (.int .u16 v4),pI v5,pB v6.1,pD v6.2,pB v8.1,pD v8.2,pB v10.1,pD v10.2,pB v12.1,pD v12.2,pB v14.1.1,pD v14.1.2,pB v14.2.1,pD v14.2.2,pB v15,pB v16.1.1,pD v16.1.2,pB v16.2.1,pD v16.2.2,pB v17,pB v18.1.1,pD v18.1.2,pB v18.2.1,pD v18.2.2,pB v19,pI v20,pI v21,pB v22.1,pD v22.2,pI v24,pI v25,pB v26.1,pD v26.2,pB v28,pB v30,pB v31,pI v33,pB v34.1,pD v34.2,pB v37.1,pD v37.2,pI v40,pB v41,pI v43,pB v44,pB v46,pB v48,pB v50,pI v52,pB v53,pB v56] []) (C:=((1000001,.call ⟨10,[],[],.o (.c (.h 2)),[]⟩) ::
  (1000004,.bin .rem 48 (LF (.h 0)) (LF (.k (.int .u16 2048))) (LF (.h 3))) ::
  (1000005,.op (.cv 48 3) [LF (.h 3)] [] (LF (.h 4))) ::
  (1000007,.bin .rem 48 (LF (.h 1)) (LF (.k (.int .u16 2048))) (LF (.h 5))) ::
  (1000008,.op (.cv 48 3) [LF (.h 5)] [] (LF (.h 6))) ::
  (1000012,.call ⟨32,[.o (.c (.h 4))],[],.o (.g [.h 7,.h 8]),[]⟩) ::
  (1000013,.call ⟨32,[.o (.c (.k (.int .i64 0)))],[],.o (.g [.h 9,.h 10]),[]⟩) ::
  (1000016,.call ⟨32,[.o (.c (.h 6))],[],.o (.g [.h 11,.h 12]),[]⟩) ::
  (1000017,.call ⟨32,[.o (.c (.k (.int .i64 0)))],[],.o (.g [.h 13,.h 14]),[]⟩) ::
  (1000025,.call ⟨18,[.o (.g [.h 7,.h 8,.h 9,.h 10]),.o (.g [.h 11,.h 12,.h 13,.h 14])],[],.t [.g [.h 15,.h 16,.h 17,.h 18],.c (.h 19)],[]⟩) ::
  (1000034,.call ⟨20,[.o (.g [.h 7,.h 8,.h 9,.h 10]),.o (.g [.h 11,.h 12,.h 13,.h 14])],[],.t [.g [.h 20,.h 21,.h 22,.h 23],.c (.h 24)],[]⟩) ::
  (1000043,.call ⟨13,[.o (.g [.h 7,.h 8,.h 9,.h 10]),.o (.g [.h 11,.h 12,.h 13,.h 14])],[],.t [.g [.h 25,.h 26,.h 27,.h 28],.c (.h 29)],[]⟩) ::
  (1000053,.op (.min [3,3] 3) [LF (.h 4),LF (.h 6)] [] (LF (.h 30))) ::
  (1000054,.bin .sub 3 (LF (.h 4)) (LF (.h 30)) (LF (.h 31))) ::
  (1000055,.call ⟨32,[.o (.c (.h 31))],[],.o (.g [.h 32,.h 33]),[]⟩) ::
  (1000059,.op (.min [3,3] 3) [LF (.h 4),LF (.h 6)] [] (LF (.h 34))) ::
  (1000060,.bin .sub 3 (LF (.h 6)) (LF (.h 34)) (LF (.h 35))) ::
  (1000061,.call ⟨32,[.o (.c (.h 35))],[],.o (.g [.h 36,.h 37]),[]⟩) ::
  (1000066,.un .not (LF (.h 24)) (LF (.h 38))) ::
  (10038,.fb 38 false) ::
  (1000070,.call ⟨17,[.o (.g [.h 20,.h 21,.h 22,.h 23]),.o (.g [.h 32,.h 33,.h 36,.h 37])],[],.o (.c (.h 39)),[]⟩) ::
  (1000071,.un .not (LF (.h 39)) (LF (.h 40))) ::
  (10040,.fb 40 false) ::
  (1000076,.call ⟨22,[.o (.g [.h 7,.h 8,.h 9,.h 10]),.o (.g [.h 11,.h 12,.h 13,.h 14])],[],.o (.c (.h 41)),[]⟩) ::
  (1000078,.call ⟨34,[.o (.c (.h 4))],[],.o (.g [.h 42,.h 43]),[]⟩) ::
  (1000080,.call ⟨34,[.o (.c (.h 6))],[],.o (.g [.h 44,.h 45]),[]⟩) ::
  (1000081,.call ⟨33,[.o (.g [.h 42,.h 43]),.o (.g [.h 44,.h 45])],[],.o (.c (.h 46)),[]⟩) ::
  (1000082,.bin .neq 3 (LF (.h 41)) (LF (.h 46)) (LF (.h 47))) ::
  (10047,.fb 47 false) ::
  (1000087,.op (.max [3,3] 3) [LF (.h 4),LF (.h 6)] [] (LF (.h 48))) ::
  (1000088,.bin .lss 3 (LF (.h 48)) (LF (.k (.int .i64 2047))) (LF (.h 49))) ::
  (10049,.fb 49 true) ::
  (1000094,.bin .neq 4 (LF (.h 29)) (LF (.k (.bool true))) (LF (.h 50))) ::
  (10050,.fb 50 false) ::
  (1000097,.un .not (LF (.h 29)) (LF (.h 51))) ::
  (10051,.fb 51 false) ::
  (1000107,.bin .eql 3 (LF (.h 4)) (LF (.h 6)) (LF (.h 52))) ::
  (10052,.fb 52 false) ::
  (1000123,.bin .add 3 (LF (.h 4)) (LF (.h 6)) (LF (.h 53))) ::
  (1000124,.bin .lss 3 (LF (.h 53)) (LF (.k (.int .i64 2048))) (LF (.h 54))) ::
  (10054,.fb 54 false) ::
  (10002,.fb 2 true) ::
  (1000129,.call ⟨35,[.o (.g [.h 15,.h 16,.h 17,.h 18]),.o (.c (.h 19))],[],.o (.c (.h 55)),[]⟩)::[]:List (Nat×Ent))) (k:=⟨7,[.o (.c (.h 0)),.o (.c (.h 1))],[],.o (.c (.h 55)),[]⟩) 0 (zm ⟨za rfl,za rfl,za rfl,za rfl,za rfl,za rfl,za rfl,za rfl,ze,za rfl,ze,za rfl,ze,za rfl,ze,za rfl,ze,za rfl,ze,za rfl,za rfl,ze,za rfl,ze,za rfl,za rfl,ze,za rfl,ze,za rfl,za rfl,za rfl,za rfl,ze,za rfl,za rfl,za rfl,ze,za rfl,za rfl,za rfl,za rfl,za rfl,ze,za rfl,ze,za rfl,za rfl,za rfl,za rfl,za rfl,za rfl,za rfl,za rfl,za rfl,za rfl,trivial⟩) ⟨zc (qE hM hTS  v1 e1) rfl rfl rfl rfl,
  e_bin (zb rfl) zg (zb rfl) (r_ar ((zas (by decide)).trans (congrArg some e2))),
  e_op1 (zb rfl) (zb rfl) (fun W=>by rw [← e3];exact r_cvi (by kernel_rfl) (by kernel_rfl) W),
  e_bin (zb rfl) zg (zb rfl) (r_ar ((zas (by decide)).trans (congrArg some e4))),
  e_op1 (zb rfl) (zb rfl) (fun W=>by rw [← e5];exact r_cvi (by kernel_rfl) (by kernel_rfl) W),
  zc (zD v3 v6 e6 s7) rfl rfl rfl rfl,
  zc (zD (0:Int) v8 e8 s9) rfl rfl rfl rfl,
  zc (zD v5 v10 e10 s11) rfl rfl rfl rfl,
  zc (zD (0:Int) v12 e12 s13) rfl rfl rfl rfl,
  zc (zap (v6,v8) (v10,v12) v14 v15 e14 e15) rfl rfl rfl rfl,
  zc (zcD (v6,v8) (v10,v12) v16 v17 e16 e17) rfl rfl rfl rfl,
  zc (zao (v6,v8) (v10,v12) v18 v19 e18 e19) rfl rfl rfl rfl,
  e_op2 (zb rfl) (zb rfl) (zb rfl) (fun W=>by rw [← e20];exact zbd W),
  e_bin (zb rfl) (zb rfl) (zb rfl) (r_ar (congrArg some e21)),
  zc (zD v21 v22 e22 s23) rfl rfl rfl rfl,
  e_op2 (zb rfl) (zb rfl) (zb rfl) (fun W=>by rw [← e24];exact zbd W),
  e_bin (zb rfl) (zb rfl) (zb rfl) (r_ar (congrArg some e25)),
  zc (zD v25 v26 e26 s27) rfl rfl rfl rfl,
  e_un (zb rfl) (zb rfl) (fun W=>by rw [← e28];exact r_not W),
  e_fb (show pV (.bool v28)=_ by rw [h29]),
  zc (zY v16 (v22,v26) v30 e30) rfl rfl rfl rfl,
  e_un (zb rfl) (zb rfl) (fun W=>by rw [← e31];exact r_not W),
  e_fb (show pV (.bool v31)=_ by rw [h32]),
  zc (zS (v6,v8) (v10,v12) v33 e33) rfl rfl rfl rfl,
  zc (f_of v3 v34 e34 s35 s36) rfl rfl rfl rfl,
  zc (f_of v5 v37 e37 s38 s39) rfl rfl rfl rfl,
  zc (f_cmp v34 v37 v40 e40) rfl rfl rfl rfl,
  e_bin (zb rfl) (zb rfl) (zb rfl) (r_cmp (congrArg some e41)),
  e_fb (show pV (.bool v41)=_ by rw [h42]),
  e_op2 (zb rfl) (zb rfl) (zb rfl) (fun W=>by rw [← e43];exact zfY W),
  e_bin (zb rfl) zg (zb rfl) (r_cmp (congrArg some e44)),
  e_fb (show pV (.bool v44)=_ by rw [h45]),
  e_bin (zb rfl) zg (zb rfl) (fun W X Y=>by rw [← e46];exact r_bne (by kernel_rfl) W X Y),
  e_fb (show pV (.bool v46)=_ by rw [h47]),
  e_un (zb rfl) (zb rfl) (fun W=>by rw [← e48];exact r_not W),
  e_fb (show pV (.bool v48)=_ by rw [h49]),
  e_bin (zb rfl) (zb rfl) (zb rfl) (r_cmp (congrArg some e50)),
  e_fb (show pV (.bool v50)=_ by rw [h51]),
  e_bin (zb rfl) (zb rfl) (zb rfl) (r_ar (congrArg some e52)),
  e_bin (zb rfl) zg (zb rfl) (r_cmp (congrArg some e53)),
  e_fb (show pV (.bool v53)=_ by rw [h54]),
  e_fb (show pV (.bool v1)=_ by rw [h55]),
  zc (zdt v14 v15 v56 e56) rfl rfl rfl rfl,
  trivial⟩ mixed (by kernel_rfl)) rfl rfl rfl rfl
theorem zlz {w0:World} (a:Int) (b:Int) (hM:∀W,Below w0.heap.size w0 W→MaxT W) (hTS:∀W,Below w0.heap.size w0 W→PowT w0.heap.size W∧SynT w0.heap.size W) (v1:Bool) (v2:Int) (v3:Int) (v4:Int) (v5:Int) (v6:Raw) (v8:Raw) (v10:Raw) (v12:Raw) (v14:RR) (v15:Bool) (v16:RR) (v17:Bool) (v18:RR) (v19:Bool) (v20:Int) (v21:Int) (v22:Raw) (v24:Int) (v25:Int) (v26:Raw) (v28:Bool) (v30:Bool) (v31:Bool) (v33:Int) (v34:Raw) (v37:Raw) (v40:Int) (v41:Bool) (v43:Int) (v44:Bool) (v46:Bool) (v47:Bool) (v49:Bool) (v51:Bool) (v52:Bool) (v54:Bool) (v57:Int) (v58:Bool) (v61:Bool) (e1:(true)=v1) (e2:((a:Int).tmod (2048:Int))=v2) (e3:(IntKind.i64.wrap v2)=v3) (e4:((b:Int).tmod (2048:Int))=v4) (e5:(IntKind.i64.wrap v4)=v5) (e6:(nz (pw v3))=v6) (e8:(nz (pw (0:Int)))=v8) (e10:(nz (pw v5))=v10) (e12:(nz (pw (0:Int)))=v12) (e14:(rq (mulR (qq (v6,v8)) (qq (v10,v12))))=v14) (e15:((mulR (qq (v6,v8)) (qq (v10,v12))).isSome)=v15) (e16:(rq (divR (qq (v6,v8)) (qq (v10,v12))))=v16) (e17:((divR (qq (v6,v8)) (qq (v10,v12))).isSome)=v17) (e18:(rq (addR (qq (v6,v8)) (qq (v10,v12))))=v18) (e19:((addR (qq (v6,v8)) (qq (v10,v12))).isSome)=v19) (e20:((if v5<v3 then v5 else v3))=v20) (e21:(IntKind.i64.wrap (v3 - v20))=v21) (e22:(nz (pw v21))=v22) (e24:((if v5<v3 then v5 else v3))=v24) (e25:(IntKind.i64.wrap (v5 - v24))=v25) (e26:(nz (pw v25))=v26) (e28:(!v17)=v28) (e30:(decide (v16=(v22,v26)))=v30) (e31:(!v30)=v31) (e33:(cmpO (qq (v6,v8)) (qq (v10,v12)))=v33) (e34:(nz v3)=v34) (e37:(nz v5)=v37) (e40:(cmpX v34 v37)=v40) (e41:((v33 != v40))=v41) (e43:((if v5 > v3 then v5 else v3))=v43) (e44:(decide (v43<(2047:Int)))=v44) (e46:((v3 != v5))=v46) (e47:(!(v19 == v46))=v47) (e49:(!v19)=v49) (e51:((!v19 && decide (v18=rq none)))=v51) (e52:(!v51)=v52) (e54:((v3 == v5))=v54) (e57:(IntKind.i64.wrap (v3+v5))=v57) (e58:(decide (v57<(2048:Int)))=v58) (e61:((!v15 && decide (v14=rq none)))=v61) (s7:0≤v3∧v3<2048) (s9:0≤(0:Int)∧(0:Int)<2048) (s11:0≤v5∧v5<2048) (s13:0≤(0:Int)∧(0:Int)<2048) (s23:0≤v21∧v21<2048) (s27:0≤v25∧v25<2048) (h29:v28=false) (h32:v31=false) (s35:-9223372036854775808≤v3) (s36:v3<9223372036854775808) (s38:-9223372036854775808≤v5) (s39:v5<9223372036854775808) (h42:v41=false) (h45:v44=false) (h48:v47=false) (h50:v49=true) (h53:v52=false) (h55:v54=true) (h56:v19=false) (h59:v58=false) (h60:v1=true):Fun (KN w0) Tryz.prog 7 [.o (.c (pV (.int .u16 a))),.o (.c (pV (.int .u16 b)))] (.o (.c (pB v61))):=
 zi (zl (F:=FL [pV (.int .u16 a),pV (.int .u16 b),pB v1,pV (.int .u16 v2),pI v3,pV (.int .u16 v4),pI v5,pB v6.1,pD v6.2,pB v8.1,pD v8.2,pB v10.1,pD v10.2,pB v12.1,pD v12.2,pB v14.1.1,pD v14.1.2,pB v14.2.1,pD v14.2.2,pB v15,pB v16.1.1,pD v16.1.2,pB v16.2.1,pD v16.2.2,pB v17,pB v18.1.1,pD v18.1.2,pB v18.2.1,pD v18.2.2,pB v19,pI v20,pI v21,pB v22.1,pD v22.2,pI v24,pI v25,pB v26.1,pD v26.2,pB v28,pB v30,pB v31,pI v33,pB v34.1,pD v34.2,pB v37.1,pD v37.2,pI v40,pB v41,pI v43,pB v44,pB v46,pB v47,pB v49,pB v51,pB v52,pB v54,pI v57,pB v58,pB v61] []) (C:=((1000001,.call ⟨10,[],[],.o (.c (.h 2)),[]⟩) ::
  (1000004,.bin .rem 48 (LF (.h 0)) (LF (.k (.int .u16 2048))) (LF (.h 3))) ::
  (1000005,.op (.cv 48 3) [LF (.h 3)] [] (LF (.h 4))) ::
  (1000007,.bin .rem 48 (LF (.h 1)) (LF (.k (.int .u16 2048))) (LF (.h 5))) ::
  (1000008,.op (.cv 48 3) [LF (.h 5)] [] (LF (.h 6))) ::
  (1000012,.call ⟨32,[.o (.c (.h 4))],[],.o (.g [.h 7,.h 8]),[]⟩) ::
  (1000013,.call ⟨32,[.o (.c (.k (.int .i64 0)))],[],.o (.g [.h 9,.h 10]),[]⟩) ::
  (1000016,.call ⟨32,[.o (.c (.h 6))],[],.o (.g [.h 11,.h 12]),[]⟩) ::
  (1000017,.call ⟨32,[.o (.c (.k (.int .i64 0)))],[],.o (.g [.h 13,.h 14]),[]⟩) ::
  (1000025,.call ⟨18,[.o (.g [.h 7,.h 8,.h 9,.h 10]),.o (.g [.h 11,.h 12,.h 13,.h 14])],[],.t [.g [.h 15,.h 16,.h 17,.h 18],.c (.h 19)],[]⟩) ::
  (1000034,.call ⟨20,[.o (.g [.h 7,.h 8,.h 9,.h 10]),.o (.g [.h 11,.h 12,.h 13,.h 14])],[],.t [.g [.h 20,.h 21,.h 22,.h 23],.c (.h 24)],[]⟩) ::
  (1000043,.call ⟨13,[.o (.g [.h 7,.h 8,.h 9,.h 10]),.o (.g [.h 11,.h 12,.h 13,.h 14])],[],.t [.g [.h 25,.h 26,.h 27,.h 28],.c (.h 29)],[]⟩) ::
  (1000053,.op (.min [3,3] 3) [LF (.h 4),LF (.h 6)] [] (LF (.h 30))) ::
  (1000054,.bin .sub 3 (LF (.h 4)) (LF (.h 30)) (LF (.h 31))) ::
  (1000055,.call ⟨32,[.o (.c (.h 31))],[],.o (.g [.h 32,.h 33]),[]⟩) ::
  (1000059,.op (.min [3,3] 3) [LF (.h 4),LF (.h 6)] [] (LF (.h 34))) ::
  (1000060,.bin .sub 3 (LF (.h 6)) (LF (.h 34)) (LF (.h 35))) ::
  (1000061,.call ⟨32,[.o (.c (.h 35))],[],.o (.g [.h 36,.h 37]),[]⟩) ::
  (1000066,.un .not (LF (.h 24)) (LF (.h 38))) ::
  (10038,.fb 38 false) ::
  (1000070,.call ⟨17,[.o (.g [.h 20,.h 21,.h 22,.h 23]),.o (.g [.h 32,.h 33,.h 36,.h 37])],[],.o (.c (.h 39)),[]⟩) ::
  (1000071,.un .not (LF (.h 39)) (LF (.h 40))) ::
  (10040,.fb 40 false) ::
  (1000076,.call ⟨22,[.o (.g [.h 7,.h 8,.h 9,.h 10]),.o (.g [.h 11,.h 12,.h 13,.h 14])],[],.o (.c (.h 41)),[]⟩) ::
  (1000078,.call ⟨34,[.o (.c (.h 4))],[],.o (.g [.h 42,.h 43]),[]⟩) ::
  (1000080,.call ⟨34,[.o (.c (.h 6))],[],.o (.g [.h 44,.h 45]),[]⟩) ::
  (1000081,.call ⟨33,[.o (.g [.h 42,.h 43]),.o (.g [.h 44,.h 45])],[],.o (.c (.h 46)),[]⟩) ::
  (1000082,.bin .neq 3 (LF (.h 41)) (LF (.h 46)) (LF (.h 47))) ::
  (10047,.fb 47 false) ::
  (1000087,.op (.max [3,3] 3) [LF (.h 4),LF (.h 6)] [] (LF (.h 48))) ::
  (1000088,.bin .lss 3 (LF (.h 48)) (LF (.k (.int .i64 2047))) (LF (.h 49))) ::
  (10049,.fb 49 false) ::
  (1000092,.bin .neq 3 (LF (.h 4)) (LF (.h 6)) (LF (.h 50))) ::
  (1000094,.bin .neq 4 (LF (.h 29)) (LF (.h 50)) (LF (.h 51))) ::
  (10051,.fb 51 false) ::
  (1000097,.un .not (LF (.h 29)) (LF (.h 52))) ::
  (10052,.fb 52 true) ::
  (1000101,.call ⟨35,[.o (.g [.h 25,.h 26,.h 27,.h 28]),.o (.c (.h 29))],[],.o (.c (.h 53)),[]⟩) ::
  (1000102,.un .not (LF (.h 53)) (LF (.h 54))) ::
  (10054,.fb 54 false) ::
  (1000107,.bin .eql 3 (LF (.h 4)) (LF (.h 6)) (LF (.h 55))) ::
  (10055,.fb 55 true) ::
  (10029,.fb 29 false) ::
  (1000123,.bin .add 3 (LF (.h 4)) (LF (.h 6)) (LF (.h 56))) ::
  (1000124,.bin .lss 3 (LF (.h 56)) (LF (.k (.int .i64 2048))) (LF (.h 57))) ::
  (10057,.fb 57 false) ::
  (10002,.fb 2 true) ::
  (1000129,.call ⟨35,[.o (.g [.h 15,.h 16,.h 17,.h 18]),.o (.c (.h 19))],[],.o (.c (.h 58)),[]⟩)::[]:List (Nat×Ent))) (k:=⟨7,[.o (.c (.h 0)),.o (.c (.h 1))],[],.o (.c (.h 58)),[]⟩) 0 (zm ⟨za rfl,za rfl,za rfl,za rfl,za rfl,za rfl,za rfl,za rfl,ze,za rfl,ze,za rfl,ze,za rfl,ze,za rfl,ze,za rfl,ze,za rfl,za rfl,ze,za rfl,ze,za rfl,za rfl,ze,za rfl,ze,za rfl,za rfl,za rfl,za rfl,ze,za rfl,za rfl,za rfl,ze,za rfl,za rfl,za rfl,za rfl,za rfl,ze,za rfl,ze,za rfl,za rfl,za rfl,za rfl,za rfl,za rfl,za rfl,za rfl,za rfl,za rfl,za rfl,za rfl,za rfl,trivial⟩) ⟨zc (qE hM hTS  v1 e1) rfl rfl rfl rfl,
  e_bin (zb rfl) zg (zb rfl) (r_ar ((zas (by decide)).trans (congrArg some e2))),
  e_op1 (zb rfl) (zb rfl) (fun W=>by rw [← e3];exact r_cvi (by kernel_rfl) (by kernel_rfl) W),
  e_bin (zb rfl) zg (zb rfl) (r_ar ((zas (by decide)).trans (congrArg some e4))),
  e_op1 (zb rfl) (zb rfl) (fun W=>by rw [← e5];exact r_cvi (by kernel_rfl) (by kernel_rfl) W),
  zc (zD v3 v6 e6 s7) rfl rfl rfl rfl,
  zc (zD (0:Int) v8 e8 s9) rfl rfl rfl rfl,
  zc (zD v5 v10 e10 s11) rfl rfl rfl rfl,
  zc (zD (0:Int) v12 e12 s13) rfl rfl rfl rfl,
  zc (zap (v6,v8) (v10,v12) v14 v15 e14 e15) rfl rfl rfl rfl,
  zc (zcD (v6,v8) (v10,v12) v16 v17 e16 e17) rfl rfl rfl rfl,
  zc (zao (v6,v8) (v10,v12) v18 v19 e18 e19) rfl rfl rfl rfl,
  e_op2 (zb rfl) (zb rfl) (zb rfl) (fun W=>by rw [← e20];exact zbd W),
  e_bin (zb rfl) (zb rfl) (zb rfl) (r_ar (congrArg some e21)),
  zc (zD v21 v22 e22 s23) rfl rfl rfl rfl,
  e_op2 (zb rfl) (zb rfl) (zb rfl) (fun W=>by rw [← e24];exact zbd W),
  e_bin (zb rfl) (zb rfl) (zb rfl) (r_ar (congrArg some e25)),
  zc (zD v25 v26 e26 s27) rfl rfl rfl rfl,
  e_un (zb rfl) (zb rfl) (fun W=>by rw [← e28];exact r_not W),
  e_fb (show pV (.bool v28)=_ by rw [h29]),
  zc (zY v16 (v22,v26) v30 e30) rfl rfl rfl rfl,
  e_un (zb rfl) (zb rfl) (fun W=>by rw [← e31];exact r_not W),
  e_fb (show pV (.bool v31)=_ by rw [h32]),
  zc (zS (v6,v8) (v10,v12) v33 e33) rfl rfl rfl rfl,
  zc (f_of v3 v34 e34 s35 s36) rfl rfl rfl rfl,
  zc (f_of v5 v37 e37 s38 s39) rfl rfl rfl rfl,
  zc (f_cmp v34 v37 v40 e40) rfl rfl rfl rfl,
  e_bin (zb rfl) (zb rfl) (zb rfl) (r_cmp (congrArg some e41)),
  e_fb (show pV (.bool v41)=_ by rw [h42]),
  e_op2 (zb rfl) (zb rfl) (zb rfl) (fun W=>by rw [← e43];exact zfY W),
  e_bin (zb rfl) zg (zb rfl) (r_cmp (congrArg some e44)),
  e_fb (show pV (.bool v44)=_ by rw [h45]),
  e_bin (zb rfl) (zb rfl) (zb rfl) (r_cmp (congrArg some e46)),
  e_bin (zb rfl) (zb rfl) (zb rfl) (fun W X Y=>by rw [← e47];exact r_bne (by kernel_rfl) W X Y),
  e_fb (show pV (.bool v47)=_ by rw [h48]),
  e_un (zb rfl) (zb rfl) (fun W=>by rw [← e49];exact r_not W),
  e_fb (show pV (.bool v49)=_ by rw [h50]),
  zc (zdt v18 v19 v51 e51) rfl rfl rfl rfl,
  e_un (zb rfl) (zb rfl) (fun W=>by rw [← e52];exact r_not W),
  e_fb (show pV (.bool v52)=_ by rw [h53]),
  e_bin (zb rfl) (zb rfl) (zb rfl) (r_cmp (congrArg some e54)),
  e_fb (show pV (.bool v54)=_ by rw [h55]),
  e_fb (show pV (.bool v19)=_ by rw [h56]),
  e_bin (zb rfl) (zb rfl) (zb rfl) (r_ar (congrArg some e57)),
  e_bin (zb rfl) zg (zb rfl) (r_cmp (congrArg some e58)),
  e_fb (show pV (.bool v58)=_ by rw [h59]),
  e_fb (show pV (.bool v1)=_ by rw [h60]),
  zc (zdt v14 v15 v61 e61) rfl rfl rfl rfl,
  trivial⟩ mixed (by kernel_rfl)) rfl rfl rfl rfl
theorem zlA {w0:World} (a:Int) (b:Int) (hM:∀W,Below w0.heap.size w0 W→MaxT W) (hTS:∀W,Below w0.heap.size w0 W→PowT w0.heap.size W∧SynT w0.heap.size W) (v1:Bool) (v2:Int) (v3:Int) (v4:Int) (v5:Int) (v6:Raw) (v8:Raw) (v10:Raw) (v12:Raw) (v14:RR) (v15:Bool) (v16:RR) (v17:Bool) (v18:RR) (v19:Bool) (v20:Int) (v21:Int) (v22:Raw) (v24:Int) (v25:Int) (v26:Raw) (v28:Bool) (v30:Bool) (v31:Bool) (v33:Int) (v34:Raw) (v37:Raw) (v40:Int) (v41:Bool) (v43:Int) (v44:Bool) (v46:Bool) (v47:Bool) (v49:Bool) (v51:Bool) (v53:Int) (v54:Bool) (v58:Int) (v59:Raw) (v61:Raw) (v63:Bool) (e1:(true)=v1) (e2:((a:Int).tmod (2048:Int))=v2) (e3:(IntKind.i64.wrap v2)=v3) (e4:((b:Int).tmod (2048:Int))=v4) (e5:(IntKind.i64.wrap v4)=v5) (e6:(nz (pw v3))=v6) (e8:(nz (pw (0:Int)))=v8) (e10:(nz (pw v5))=v10) (e12:(nz (pw (0:Int)))=v12) (e14:(rq (mulR (qq (v6,v8)) (qq (v10,v12))))=v14) (e15:((mulR (qq (v6,v8)) (qq (v10,v12))).isSome)=v15) (e16:(rq (divR (qq (v6,v8)) (qq (v10,v12))))=v16) (e17:((divR (qq (v6,v8)) (qq (v10,v12))).isSome)=v17) (e18:(rq (addR (qq (v6,v8)) (qq (v10,v12))))=v18) (e19:((addR (qq (v6,v8)) (qq (v10,v12))).isSome)=v19) (e20:((if v5<v3 then v5 else v3))=v20) (e21:(IntKind.i64.wrap (v3 - v20))=v21) (e22:(nz (pw v21))=v22) (e24:((if v5<v3 then v5 else v3))=v24) (e25:(IntKind.i64.wrap (v5 - v24))=v25) (e26:(nz (pw v25))=v26) (e28:(!v17)=v28) (e30:(decide (v16=(v22,v26)))=v30) (e31:(!v30)=v31) (e33:(cmpO (qq (v6,v8)) (qq (v10,v12)))=v33) (e34:(nz v3)=v34) (e37:(nz v5)=v37) (e40:(cmpX v34 v37)=v40) (e41:((v33 != v40))=v41) (e43:((if v5 > v3 then v5 else v3))=v43) (e44:(decide (v43<(2047:Int)))=v44) (e46:((v3 != v5))=v46) (e47:(!(v19 == v46))=v47) (e49:(!v19)=v49) (e51:((v3 == v5))=v51) (e53:(IntKind.i64.wrap (v3+v5))=v53) (e54:(decide (v53<(2048:Int)))=v54) (e58:(IntKind.i64.wrap (v3+v5))=v58) (e59:(nz (pw v58))=v59) (e61:(nz (pw (0:Int)))=v61) (e63:(decide (v14=(v59,v61)))=v63) (s7:0≤v3∧v3<2048) (s9:0≤(0:Int)∧(0:Int)<2048) (s11:0≤v5∧v5<2048) (s13:0≤(0:Int)∧(0:Int)<2048) (s23:0≤v21∧v21<2048) (s27:0≤v25∧v25<2048) (h29:v28=false) (h32:v31=false) (s35:-9223372036854775808≤v3) (s36:v3<9223372036854775808) (s38:-9223372036854775808≤v5) (s39:v5<9223372036854775808) (h42:v41=false) (h45:v44=false) (h48:v47=false) (h50:v49=false) (h52:v51=false) (h55:v54=true) (h56:v1=true) (h57:v15=true) (s60:0≤v58∧v58<2048) (s62:0≤(0:Int)∧(0:Int)<2048):Fun (KN w0) Tryz.prog 7 [.o (.c (pV (.int .u16 a))),.o (.c (pV (.int .u16 b)))] (.o (.c (pB v63))):=
 zi (zl (F:=FL (pV (.int .u16 a)::pV (.int .u16 b)::pB v1::pV (.int .u16 v2)::pI v3::pV (.int .u16 v4)::pI v5::pB v6.1::pD v6.2::pB v8.1::pD v8.2::pB v10.1::pD v10.2::pB v12.1::pD v12.2::pB v14.1.1::pD v14.1.2::pB v14.2.1::pD v14.2.2::pB v15::pB v16.1.1::pD v16.1.2::pB v16.2.1::pD v16.2.2::pB v17::pB v18.1.1::pD v18.1.2::pB v18.2.1::pD v18.2.2::pB v19::pI v20::pI v21::pB v22.1::pD v22.2::pI v24::pI v25::pB v26.1::pD v26.2::pB v28::pB v30::pB v31::pI v33::pB v34.1::pD v34.2::pB v37.1::pD v37.2::pI v40::pB v41::pI v43::pB v44::pB v46::pB v47::pB v49::pB v51::pI v53::pB v54::pI v58::pB v59.1::pD v59.2::pB v61.1::pD v61.2::pB v63::[]) []) (C:=((1000001,.call ⟨10,[],[],.o (.c (.h 2)),[]⟩) ::
  (1000004,.bin .rem 48 (LF (.h 0)) (LF (.k (.int .u16 2048))) (LF (.h 3))) ::
  (1000005,.op (.cv 48 3) [LF (.h 3)] [] (LF (.h 4))) ::
  (1000007,.bin .rem 48 (LF (.h 1)) (LF (.k (.int .u16 2048))) (LF (.h 5))) ::
  (1000008,.op (.cv 48 3) [LF (.h 5)] [] (LF (.h 6))) ::
  (1000012,.call ⟨32,[.o (.c (.h 4))],[],.o (.g [.h 7,.h 8]),[]⟩) ::
  (1000013,.call ⟨32,[.o (.c (.k (.int .i64 0)))],[],.o (.g [.h 9,.h 10]),[]⟩) ::
  (1000016,.call ⟨32,[.o (.c (.h 6))],[],.o (.g [.h 11,.h 12]),[]⟩) ::
  (1000017,.call ⟨32,[.o (.c (.k (.int .i64 0)))],[],.o (.g [.h 13,.h 14]),[]⟩) ::
  (1000025,.call ⟨18,[.o (.g [.h 7,.h 8,.h 9,.h 10]),.o (.g [.h 11,.h 12,.h 13,.h 14])],[],.t [.g [.h 15,.h 16,.h 17,.h 18],.c (.h 19)],[]⟩) ::
  (1000034,.call ⟨20,[.o (.g [.h 7,.h 8,.h 9,.h 10]),.o (.g [.h 11,.h 12,.h 13,.h 14])],[],.t [.g [.h 20,.h 21,.h 22,.h 23],.c (.h 24)],[]⟩) ::
  (1000043,.call ⟨13,[.o (.g [.h 7,.h 8,.h 9,.h 10]),.o (.g [.h 11,.h 12,.h 13,.h 14])],[],.t [.g [.h 25,.h 26,.h 27,.h 28],.c (.h 29)],[]⟩) ::
  (1000053,.op (.min [3,3] 3) [LF (.h 4),LF (.h 6)] [] (LF (.h 30))) ::
  (1000054,.bin .sub 3 (LF (.h 4)) (LF (.h 30)) (LF (.h 31))) ::
  (1000055,.call ⟨32,[.o (.c (.h 31))],[],.o (.g [.h 32,.h 33]),[]⟩) ::
  (1000059,.op (.min [3,3] 3) [LF (.h 4),LF (.h 6)] [] (LF (.h 34))) ::
  (1000060,.bin .sub 3 (LF (.h 6)) (LF (.h 34)) (LF (.h 35))) ::
  (1000061,.call ⟨32,[.o (.c (.h 35))],[],.o (.g [.h 36,.h 37]),[]⟩) ::
  (1000066,.un .not (LF (.h 24)) (LF (.h 38))) ::
  (10038,.fb 38 false) ::
  (1000070,.call ⟨17,[.o (.g [.h 20,.h 21,.h 22,.h 23]),.o (.g [.h 32,.h 33,.h 36,.h 37])],[],.o (.c (.h 39)),[]⟩) ::
  (1000071,.un .not (LF (.h 39)) (LF (.h 40))) ::
  (10040,.fb 40 false) ::
  (1000076,.call ⟨22,[.o (.g [.h 7,.h 8,.h 9,.h 10]),.o (.g [.h 11,.h 12,.h 13,.h 14])],[],.o (.c (.h 41)),[]⟩) ::
  (1000078,.call ⟨34,[.o (.c (.h 4))],[],.o (.g [.h 42,.h 43]),[]⟩) ::
  (1000080,.call ⟨34,[.o (.c (.h 6))],[],.o (.g [.h 44,.h 45]),[]⟩) ::
  (1000081,.call ⟨33,[.o (.g [.h 42,.h 43]),.o (.g [.h 44,.h 45])],[],.o (.c (.h 46)),[]⟩) ::
  (1000082,.bin .neq 3 (LF (.h 41)) (LF (.h 46)) (LF (.h 47))) ::
  (10047,.fb 47 false) ::
  (1000087,.op (.max [3,3] 3) [LF (.h 4),LF (.h 6)] [] (LF (.h 48))) ::
  (1000088,.bin .lss 3 (LF (.h 48)) (LF (.k (.int .i64 2047))) (LF (.h 49))) ::
  (10049,.fb 49 false) ::
  (1000092,.bin .neq 3 (LF (.h 4)) (LF (.h 6)) (LF (.h 50))) ::
  (1000094,.bin .neq 4 (LF (.h 29)) (LF (.h 50)) (LF (.h 51))) ::
  (10051,.fb 51 false) ::
  (1000097,.un .not (LF (.h 29)) (LF (.h 52))) ::
  (10052,.fb 52 false) ::
  (1000107,.bin .eql 3 (LF (.h 4)) (LF (.h 6)) (LF (.h 53))) ::
  (10053,.fb 53 false) ::
  (1000123,.bin .add 3 (LF (.h 4)) (LF (.h 6)) (LF (.h 54))) ::
  (1000124,.bin .lss 3 (LF (.h 54)) (LF (.k (.int .i64 2048))) (LF (.h 55))) ::
  (10055,.fb 55 true) ::
  (10002,.fb 2 true) ::
  (10019,.fb 19 true) ::
  (1000133,.bin .add 3 (LF (.h 4)) (LF (.h 6)) (LF (.h 56))) ::
  (1000134,.call ⟨32,[.o (.c (.h 56))],[],.o (.g [.h 57,.h 58]),[]⟩) ::
  (1000135,.call ⟨32,[.o (.c (.k (.int .i64 0)))],[],.o (.g [.h 59,.h 60]),[]⟩) ::
  (1000137,.call ⟨17,[.o (.g [.h 15,.h 16,.h 17,.h 18]),.o (.g [.h 57,.h 58,.h 59,.h 60])],[],.o (.c (.h 61)),[]⟩)::[]:List (Nat×Ent))) (k:=⟨7,[.o (.c (.h 0)),.o (.c (.h 1))],[],.o (.c (.h 61)),[]⟩) 0 (zm ⟨za rfl,za rfl,za rfl,za rfl,za rfl,za rfl,za rfl,za rfl,ze,za rfl,ze,za rfl,ze,za rfl,ze,za rfl,ze,za rfl,ze,za rfl,za rfl,ze,za rfl,ze,za rfl,za rfl,ze,za rfl,ze,za rfl,za rfl,za rfl,za rfl,ze,za rfl,za rfl,za rfl,ze,za rfl,za rfl,za rfl,za rfl,za rfl,ze,za rfl,ze,za rfl,za rfl,za rfl,za rfl,za rfl,za rfl,za rfl,za rfl,za rfl,za rfl,za rfl,za rfl,ze,za rfl,ze,za rfl,trivial⟩) ⟨zc (qE hM hTS  v1 e1) rfl rfl rfl rfl,
  e_bin (zb rfl) zg (zb rfl) (r_ar ((zas (by decide)).trans (congrArg some e2))),
  e_op1 (zb rfl) (zb rfl) (fun W=>by rw [← e3];exact r_cvi (by kernel_rfl) (by kernel_rfl) W),
  e_bin (zb rfl) zg (zb rfl) (r_ar ((zas (by decide)).trans (congrArg some e4))),
  e_op1 (zb rfl) (zb rfl) (fun W=>by rw [← e5];exact r_cvi (by kernel_rfl) (by kernel_rfl) W),
  zc (zD v3 v6 e6 s7) rfl rfl rfl rfl,
  zc (zD (0:Int) v8 e8 s9) rfl rfl rfl rfl,
  zc (zD v5 v10 e10 s11) rfl rfl rfl rfl,
  zc (zD (0:Int) v12 e12 s13) rfl rfl rfl rfl,
  zc (zap (v6,v8) (v10,v12) v14 v15 e14 e15) rfl rfl rfl rfl,
  zc (zcD (v6,v8) (v10,v12) v16 v17 e16 e17) rfl rfl rfl rfl,
  zc (zao (v6,v8) (v10,v12) v18 v19 e18 e19) rfl rfl rfl rfl,
  e_op2 (zb rfl) (zb rfl) (zb rfl) (fun W=>by rw [← e20];exact zbd W),
  e_bin (zb rfl) (zb rfl) (zb rfl) (r_ar (congrArg some e21)),
  zc (zD v21 v22 e22 s23) rfl rfl rfl rfl,
  e_op2 (zb rfl) (zb rfl) (zb rfl) (fun W=>by rw [← e24];exact zbd W),
  e_bin (zb rfl) (zb rfl) (zb rfl) (r_ar (congrArg some e25)),
  zc (zD v25 v26 e26 s27) rfl rfl rfl rfl,
  e_un (zb rfl) (zb rfl) (fun W=>by rw [← e28];exact r_not W),
  e_fb (show pV (.bool v28)=_ by rw [h29]),
  zc (zY v16 (v22,v26) v30 e30) rfl rfl rfl rfl,
  e_un (zb rfl) (zb rfl) (fun W=>by rw [← e31];exact r_not W),
  e_fb (show pV (.bool v31)=_ by rw [h32]),
  zc (zS (v6,v8) (v10,v12) v33 e33) rfl rfl rfl rfl,
  zc (f_of v3 v34 e34 s35 s36) rfl rfl rfl rfl,
  zc (f_of v5 v37 e37 s38 s39) rfl rfl rfl rfl,
  zc (f_cmp v34 v37 v40 e40) rfl rfl rfl rfl,
  e_bin (zb rfl) (zb rfl) (zb rfl) (r_cmp (congrArg some e41)),
  e_fb (show pV (.bool v41)=_ by rw [h42]),
  e_op2 (zb rfl) (zb rfl) (zb rfl) (fun W=>by rw [← e43];exact zfY W),
  e_bin (zb rfl) zg (zb rfl) (r_cmp (congrArg some e44)),
  e_fb (show pV (.bool v44)=_ by rw [h45]),
  e_bin (zb rfl) (zb rfl) (zb rfl) (r_cmp (congrArg some e46)),
  e_bin (zb rfl) (zb rfl) (zb rfl) (fun W X Y=>by rw [← e47];exact r_bne (by kernel_rfl) W X Y),
  e_fb (show pV (.bool v47)=_ by rw [h48]),
  e_un (zb rfl) (zb rfl) (fun W=>by rw [← e49];exact r_not W),
  e_fb (show pV (.bool v49)=_ by rw [h50]),
  e_bin (zb rfl) (zb rfl) (zb rfl) (r_cmp (congrArg some e51)),
  e_fb (show pV (.bool v51)=_ by rw [h52]),
  e_bin (zb rfl) (zb rfl) (zb rfl) (r_ar (congrArg some e53)),
  e_bin (zb rfl) zg (zb rfl) (r_cmp (congrArg some e54)),
  e_fb (show pV (.bool v54)=_ by rw [h55]),
  e_fb (show pV (.bool v1)=_ by rw [h56]),
  e_fb (show pV (.bool v15)=_ by rw [h57]),
  e_bin (zb rfl) (zb rfl) (zb rfl) (r_ar (congrArg some e58)),
  zc (zD v58 v59 e59 s60) rfl rfl rfl rfl,
  zc (zD (0:Int) v61 e61 s62) rfl rfl rfl rfl,
  zc (zY v14 (v59,v61) v63 e63) rfl rfl rfl rfl,
  trivial⟩ mixed (by kernel_rfl)) rfl rfl rfl rfl
theorem zlB {w0:World} (a:Int) (b:Int) (hM:∀W,Below w0.heap.size w0 W→MaxT W) (hTS:∀W,Below w0.heap.size w0 W→PowT w0.heap.size W∧SynT w0.heap.size W) (v1:Bool) (v2:Int) (v3:Int) (v4:Int) (v5:Int) (v6:Raw) (v8:Raw) (v10:Raw) (v12:Raw) (v14:RR) (v15:Bool) (v16:RR) (v17:Bool) (v18:RR) (v19:Bool) (v20:Int) (v21:Int) (v22:Raw) (v24:Int) (v25:Int) (v26:Raw) (v28:Bool) (v30:Bool) (v31:Bool) (v33:Int) (v34:Raw) (v37:Raw) (v40:Int) (v41:Bool) (v43:Int) (v44:Bool) (v46:Bool) (v47:Bool) (v49:Bool) (v51:Bool) (v53:Int) (v54:Bool) (v57:Bool) (e1:(true)=v1) (e2:((a:Int).tmod (2048:Int))=v2) (e3:(IntKind.i64.wrap v2)=v3) (e4:((b:Int).tmod (2048:Int))=v4) (e5:(IntKind.i64.wrap v4)=v5) (e6:(nz (pw v3))=v6) (e8:(nz (pw (0:Int)))=v8) (e10:(nz (pw v5))=v10) (e12:(nz (pw (0:Int)))=v12) (e14:(rq (mulR (qq (v6,v8)) (qq (v10,v12))))=v14) (e15:((mulR (qq (v6,v8)) (qq (v10,v12))).isSome)=v15) (e16:(rq (divR (qq (v6,v8)) (qq (v10,v12))))=v16) (e17:((divR (qq (v6,v8)) (qq (v10,v12))).isSome)=v17) (e18:(rq (addR (qq (v6,v8)) (qq (v10,v12))))=v18) (e19:((addR (qq (v6,v8)) (qq (v10,v12))).isSome)=v19) (e20:((if v5<v3 then v5 else v3))=v20) (e21:(IntKind.i64.wrap (v3 - v20))=v21) (e22:(nz (pw v21))=v22) (e24:((if v5<v3 then v5 else v3))=v24) (e25:(IntKind.i64.wrap (v5 - v24))=v25) (e26:(nz (pw v25))=v26) (e28:(!v17)=v28) (e30:(decide (v16=(v22,v26)))=v30) (e31:(!v30)=v31) (e33:(cmpO (qq (v6,v8)) (qq (v10,v12)))=v33) (e34:(nz v3)=v34) (e37:(nz v5)=v37) (e40:(cmpX v34 v37)=v40) (e41:((v33 != v40))=v41) (e43:((if v5 > v3 then v5 else v3))=v43) (e44:(decide (v43<(2047:Int)))=v44) (e46:((v3 != v5))=v46) (e47:(!(v19 == v46))=v47) (e49:(!v19)=v49) (e51:((v3 == v5))=v51) (e53:(IntKind.i64.wrap (v3+v5))=v53) (e54:(decide (v53<(2048:Int)))=v54) (e57:((!v15 && decide (v14=rq none)))=v57) (s7:0≤v3∧v3<2048) (s9:0≤(0:Int)∧(0:Int)<2048) (s11:0≤v5∧v5<2048) (s13:0≤(0:Int)∧(0:Int)<2048) (s23:0≤v21∧v21<2048) (s27:0≤v25∧v25<2048) (h29:v28=false) (h32:v31=false) (s35:-9223372036854775808≤v3) (s36:v3<9223372036854775808) (s38:-9223372036854775808≤v5) (s39:v5<9223372036854775808) (h42:v41=false) (h45:v44=false) (h48:v47=false) (h50:v49=false) (h52:v51=false) (h55:v54=false) (h56:v1=true):Fun (KN w0) Tryz.prog 7 [.o (.c (pV (.int .u16 a))),.o (.c (pV (.int .u16 b)))] (.o (.c (pB v57))):=
 zi (zl (F:=FL [pV (.int .u16 a),pV (.int .u16 b),pB v1,pV (.int .u16 v2),pI v3,pV (.int .u16 v4),pI v5,pB v6.1,pD v6.2,pB v8.1,pD v8.2,pB v10.1,pD v10.2,pB v12.1,pD v12.2,pB v14.1.1,pD v14.1.2,pB v14.2.1,pD v14.2.2,pB v15,pB v16.1.1,pD v16.1.2,pB v16.2.1,pD v16.2.2,pB v17,pB v18.1.1,pD v18.1.2,pB v18.2.1,pD v18.2.2,pB v19,pI v20,pI v21,pB v22.1,pD v22.2,pI v24,pI v25,pB v26.1,pD v26.2,pB v28,pB v30,pB v31,pI v33,pB v34.1,pD v34.2,pB v37.1,pD v37.2,pI v40,pB v41,pI v43,pB v44,pB v46,pB v47,pB v49,pB v51,pI v53,pB v54,pB v57] []) (C:=((1000001,.call ⟨10,[],[],.o (.c (.h 2)),[]⟩) ::
  (1000004,.bin .rem 48 (LF (.h 0)) (LF (.k (.int .u16 2048))) (LF (.h 3))) ::
  (1000005,.op (.cv 48 3) [LF (.h 3)] [] (LF (.h 4))) ::
  (1000007,.bin .rem 48 (LF (.h 1)) (LF (.k (.int .u16 2048))) (LF (.h 5))) ::
  (1000008,.op (.cv 48 3) [LF (.h 5)] [] (LF (.h 6))) ::
  (1000012,.call ⟨32,[.o (.c (.h 4))],[],.o (.g [.h 7,.h 8]),[]⟩) ::
  (1000013,.call ⟨32,[.o (.c (.k (.int .i64 0)))],[],.o (.g [.h 9,.h 10]),[]⟩) ::
  (1000016,.call ⟨32,[.o (.c (.h 6))],[],.o (.g [.h 11,.h 12]),[]⟩) ::
  (1000017,.call ⟨32,[.o (.c (.k (.int .i64 0)))],[],.o (.g [.h 13,.h 14]),[]⟩) ::
  (1000025,.call ⟨18,[.o (.g [.h 7,.h 8,.h 9,.h 10]),.o (.g [.h 11,.h 12,.h 13,.h 14])],[],.t [.g [.h 15,.h 16,.h 17,.h 18],.c (.h 19)],[]⟩) ::
  (1000034,.call ⟨20,[.o (.g [.h 7,.h 8,.h 9,.h 10]),.o (.g [.h 11,.h 12,.h 13,.h 14])],[],.t [.g [.h 20,.h 21,.h 22,.h 23],.c (.h 24)],[]⟩) ::
  (1000043,.call ⟨13,[.o (.g [.h 7,.h 8,.h 9,.h 10]),.o (.g [.h 11,.h 12,.h 13,.h 14])],[],.t [.g [.h 25,.h 26,.h 27,.h 28],.c (.h 29)],[]⟩) ::
  (1000053,.op (.min [3,3] 3) [LF (.h 4),LF (.h 6)] [] (LF (.h 30))) ::
  (1000054,.bin .sub 3 (LF (.h 4)) (LF (.h 30)) (LF (.h 31))) ::
  (1000055,.call ⟨32,[.o (.c (.h 31))],[],.o (.g [.h 32,.h 33]),[]⟩) ::
  (1000059,.op (.min [3,3] 3) [LF (.h 4),LF (.h 6)] [] (LF (.h 34))) ::
  (1000060,.bin .sub 3 (LF (.h 6)) (LF (.h 34)) (LF (.h 35))) ::
  (1000061,.call ⟨32,[.o (.c (.h 35))],[],.o (.g [.h 36,.h 37]),[]⟩) ::
  (1000066,.un .not (LF (.h 24)) (LF (.h 38))) ::
  (10038,.fb 38 false) ::
  (1000070,.call ⟨17,[.o (.g [.h 20,.h 21,.h 22,.h 23]),.o (.g [.h 32,.h 33,.h 36,.h 37])],[],.o (.c (.h 39)),[]⟩) ::
  (1000071,.un .not (LF (.h 39)) (LF (.h 40))) ::
  (10040,.fb 40 false) ::
  (1000076,.call ⟨22,[.o (.g [.h 7,.h 8,.h 9,.h 10]),.o (.g [.h 11,.h 12,.h 13,.h 14])],[],.o (.c (.h 41)),[]⟩) ::
  (1000078,.call ⟨34,[.o (.c (.h 4))],[],.o (.g [.h 42,.h 43]),[]⟩) ::
  (1000080,.call ⟨34,[.o (.c (.h 6))],[],.o (.g [.h 44,.h 45]),[]⟩) ::
  (1000081,.call ⟨33,[.o (.g [.h 42,.h 43]),.o (.g [.h 44,.h 45])],[],.o (.c (.h 46)),[]⟩) ::
  (1000082,.bin .neq 3 (LF (.h 41)) (LF (.h 46)) (LF (.h 47))) ::
  (10047,.fb 47 false) ::
  (1000087,.op (.max [3,3] 3) [LF (.h 4),LF (.h 6)] [] (LF (.h 48))) ::
  (1000088,.bin .lss 3 (LF (.h 48)) (LF (.k (.int .i64 2047))) (LF (.h 49))) ::
  (10049,.fb 49 false) ::
  (1000092,.bin .neq 3 (LF (.h 4)) (LF (.h 6)) (LF (.h 50))) ::
  (1000094,.bin .neq 4 (LF (.h 29)) (LF (.h 50)) (LF (.h 51))) ::
  (10051,.fb 51 false) ::
  (1000097,.un .not (LF (.h 29)) (LF (.h 52))) ::
  (10052,.fb 52 false) ::
  (1000107,.bin .eql 3 (LF (.h 4)) (LF (.h 6)) (LF (.h 53))) ::
  (10053,.fb 53 false) ::
  (1000123,.bin .add 3 (LF (.h 4)) (LF (.h 6)) (LF (.h 54))) ::
  (1000124,.bin .lss 3 (LF (.h 54)) (LF (.k (.int .i64 2048))) (LF (.h 55))) ::
  (10055,.fb 55 false) ::
  (10002,.fb 2 true) ::
  (1000129,.call ⟨35,[.o (.g [.h 15,.h 16,.h 17,.h 18]),.o (.c (.h 19))],[],.o (.c (.h 56)),[]⟩)::[]:List (Nat×Ent))) (k:=⟨7,[.o (.c (.h 0)),.o (.c (.h 1))],[],.o (.c (.h 56)),[]⟩) 0 (zm ⟨za rfl,za rfl,za rfl,za rfl,za rfl,za rfl,za rfl,za rfl,ze,za rfl,ze,za rfl,ze,za rfl,ze,za rfl,ze,za rfl,ze,za rfl,za rfl,ze,za rfl,ze,za rfl,za rfl,ze,za rfl,ze,za rfl,za rfl,za rfl,za rfl,ze,za rfl,za rfl,za rfl,ze,za rfl,za rfl,za rfl,za rfl,za rfl,ze,za rfl,ze,za rfl,za rfl,za rfl,za rfl,za rfl,za rfl,za rfl,za rfl,za rfl,za rfl,za rfl,trivial⟩) ⟨zc (qE hM hTS  v1 e1) rfl rfl rfl rfl,
  e_bin (zb rfl) zg (zb rfl) (r_ar ((zas (by decide)).trans (congrArg some e2))),
  e_op1 (zb rfl) (zb rfl) (fun W=>by rw [← e3];exact r_cvi (by kernel_rfl) (by kernel_rfl) W),
  e_bin (zb rfl) zg (zb rfl) (r_ar ((zas (by decide)).trans (congrArg some e4))),
  e_op1 (zb rfl) (zb rfl) (fun W=>by rw [← e5];exact r_cvi (by kernel_rfl) (by kernel_rfl) W),
  zc (zD v3 v6 e6 s7) rfl rfl rfl rfl,
  zc (zD (0:Int) v8 e8 s9) rfl rfl rfl rfl,
  zc (zD v5 v10 e10 s11) rfl rfl rfl rfl,
  zc (zD (0:Int) v12 e12 s13) rfl rfl rfl rfl,
  zc (zap (v6,v8) (v10,v12) v14 v15 e14 e15) rfl rfl rfl rfl,
  zc (zcD (v6,v8) (v10,v12) v16 v17 e16 e17) rfl rfl rfl rfl,
  zc (zao (v6,v8) (v10,v12) v18 v19 e18 e19) rfl rfl rfl rfl,
  e_op2 (zb rfl) (zb rfl) (zb rfl) (fun W=>by rw [← e20];exact zbd W),
  e_bin (zb rfl) (zb rfl) (zb rfl) (r_ar (congrArg some e21)),
  zc (zD v21 v22 e22 s23) rfl rfl rfl rfl,
  e_op2 (zb rfl) (zb rfl) (zb rfl) (fun W=>by rw [← e24];exact zbd W),
  e_bin (zb rfl) (zb rfl) (zb rfl) (r_ar (congrArg some e25)),
  zc (zD v25 v26 e26 s27) rfl rfl rfl rfl,
  e_un (zb rfl) (zb rfl) (fun W=>by rw [← e28];exact r_not W),
  e_fb (show pV (.bool v28)=_ by rw [h29]),
  zc (zY v16 (v22,v26) v30 e30) rfl rfl rfl rfl,
  e_un (zb rfl) (zb rfl) (fun W=>by rw [← e31];exact r_not W),
  e_fb (show pV (.bool v31)=_ by rw [h32]),
  zc (zS (v6,v8) (v10,v12) v33 e33) rfl rfl rfl rfl,
  zc (f_of v3 v34 e34 s35 s36) rfl rfl rfl rfl,
  zc (f_of v5 v37 e37 s38 s39) rfl rfl rfl rfl,
  zc (f_cmp v34 v37 v40 e40) rfl rfl rfl rfl,
  e_bin (zb rfl) (zb rfl) (zb rfl) (r_cmp (congrArg some e41)),
  e_fb (show pV (.bool v41)=_ by rw [h42]),
  e_op2 (zb rfl) (zb rfl) (zb rfl) (fun W=>by rw [← e43];exact zfY W),
  e_bin (zb rfl) zg (zb rfl) (r_cmp (congrArg some e44)),
  e_fb (show pV (.bool v44)=_ by rw [h45]),
  e_bin (zb rfl) (zb rfl) (zb rfl) (r_cmp (congrArg some e46)),
  e_bin (zb rfl) (zb rfl) (zb rfl) (fun W X Y=>by rw [← e47];exact r_bne (by kernel_rfl) W X Y),
  e_fb (show pV (.bool v47)=_ by rw [h48]),
  e_un (zb rfl) (zb rfl) (fun W=>by rw [← e49];exact r_not W),
  e_fb (show pV (.bool v49)=_ by rw [h50]),
  e_bin (zb rfl) (zb rfl) (zb rfl) (r_cmp (congrArg some e51)),
  e_fb (show pV (.bool v51)=_ by rw [h52]),
  e_bin (zb rfl) (zb rfl) (zb rfl) (r_ar (congrArg some e53)),
  e_bin (zb rfl) zg (zb rfl) (r_cmp (congrArg some e54)),
  e_fb (show pV (.bool v54)=_ by rw [h55]),
  e_fb (show pV (.bool v1)=_ by rw [h56]),
  zc (zdt v14 v15 v57 e57) rfl rfl rfl rfl,
  trivial⟩ mixed (by kernel_rfl)) rfl rfl rfl rfl
abbrev wM (a:Int):Int:=IntKind.i64.wrap (a.tmod 2048)
theorem zaA (a:Int) (b:Int) (a0:0≤a) (a1:a<65536) (b0:0≤b) (b1:b<65536) :0≤(wM a)∧(wM a)<2048:=by
 obtain ⟨m,n,A,M,D,em,en,hm,hn,eA,eM,eD,sD,rD,cc,sA,nA,rA,sM,nM,rM,e5,e6,e7,e8⟩:=zw a0 a1 b0 b1
 simp only [wM,em,en,eA,eM,eD,sD,rD,cc,sA,sM,z8,z6,e5,e6,e7,e8,Bool.not_true,decide_true,bne_self_eq_false,decide_eq_true_eq,decide_eq_false_iff_not,Bool.not_eq_false',Bool.not_eq_true',beq_iff_eq,bne_iff_ne,beq_eq_false_iff_ne,ne_eq,Int.natCast_inj,Bool.and_eq_true]
 try (first | omega | (rw [Bool.eq_iff_iff];simp;omega))
theorem ql (a:Int) (b:Int) (a0:0≤a) (a1:a<65536) (b0:0≤b) (b1:b<65536) :0≤(0:Int)∧(0:Int)<2048:=by simp
theorem zaB (a:Int) (b:Int) (a0:0≤a) (a1:a<65536) (b0:0≤b) (b1:b<65536) :0≤(wM b)∧(wM b)<2048:=by
 obtain ⟨m,n,A,M,D,em,en,hm,hn,eA,eM,eD,sD,rD,cc,sA,nA,rA,sM,nM,rM,e5,e6,e7,e8⟩:=zw a0 a1 b0 b1
 simp only [wM,em,en,eA,eM,eD,sD,rD,cc,sA,sM,z8,z6,e5,e6,e7,e8,Bool.not_true,decide_true,bne_self_eq_false,decide_eq_true_eq,decide_eq_false_iff_not,Bool.not_eq_false',Bool.not_eq_true',beq_iff_eq,bne_iff_ne,beq_eq_false_iff_ne,ne_eq,Int.natCast_inj,Bool.and_eq_true]
 try (first | omega | (rw [Bool.eq_iff_iff];simp;omega))
theorem zaC (a:Int) (b:Int) (a0:0≤a) (a1:a<65536) (b0:0≤b) (b1:b<65536) :0≤(IntKind.i64.wrap ((wM a) - ((if (wM b)<(wM a) then (wM b) else (wM a)))))∧(IntKind.i64.wrap ((wM a) - ((if (wM b)<(wM a) then (wM b) else (wM a)))))<2048:=by
 obtain ⟨m,n,A,M,D,em,en,hm,hn,eA,eM,eD,sD,rD,cc,sA,nA,rA,sM,nM,rM,e5,e6,e7,e8⟩:=zw a0 a1 b0 b1
 simp only [wM,em,en,eA,eM,eD,sD,rD,cc,sA,sM,z8,z6,e5,e6,e7,e8,Bool.not_true,decide_true,bne_self_eq_false,decide_eq_true_eq,decide_eq_false_iff_not,Bool.not_eq_false',Bool.not_eq_true',beq_iff_eq,bne_iff_ne,beq_eq_false_iff_ne,ne_eq,Int.natCast_inj,Bool.and_eq_true]
 try (first | omega | (rw [Bool.eq_iff_iff];simp;omega))
theorem zaD (a:Int) (b:Int) (a0:0≤a) (a1:a<65536) (b0:0≤b) (b1:b<65536) :0≤(IntKind.i64.wrap ((wM b) - ((if (wM b)<(wM a) then (wM b) else (wM a)))))∧(IntKind.i64.wrap ((wM b) - ((if (wM b)<(wM a) then (wM b) else (wM a)))))<2048:=by
 obtain ⟨m,n,A,M,D,em,en,hm,hn,eA,eM,eD,sD,rD,cc,sA,nA,rA,sM,nM,rM,e5,e6,e7,e8⟩:=zw a0 a1 b0 b1
 simp only [wM,em,en,eA,eM,eD,sD,rD,cc,sA,sM,z8,z6,e5,e6,e7,e8,Bool.not_true,decide_true,bne_self_eq_false,decide_eq_true_eq,decide_eq_false_iff_not,Bool.not_eq_false',Bool.not_eq_true',beq_iff_eq,bne_iff_ne,beq_eq_false_iff_ne,ne_eq,Int.natCast_inj,Bool.and_eq_true]
 try (first | omega | (rw [Bool.eq_iff_iff];simp;omega))
theorem zaE (a:Int) (b:Int) (a0:0≤a) (a1:a<65536) (b0:0≤b) (b1:b<65536) :((!((divR (qq ((nz (pw (wM a))),(nz (pw (0:Int))))) (qq ((nz (pw (wM b))),(nz (pw (0:Int)))))).isSome)))=false:=by
 obtain ⟨m,n,A,M,D,em,en,hm,hn,eA,eM,eD,sD,rD,cc,sA,nA,rA,sM,nM,rM,e5,e6,e7,e8⟩:=zw a0 a1 b0 b1
 simp only [wM,em,en,eA,eM,eD,sD,rD,cc,sA,sM,z8,z6,e5,e6,e7,e8,Bool.not_true,decide_true,bne_self_eq_false,decide_eq_true_eq,decide_eq_false_iff_not,Bool.not_eq_false',Bool.not_eq_true',beq_iff_eq,bne_iff_ne,beq_eq_false_iff_ne,ne_eq,Int.natCast_inj,Bool.and_eq_true]
 try (first | omega | (rw [Bool.eq_iff_iff];simp;omega))
theorem zaF (a:Int) (b:Int) (a0:0≤a) (a1:a<65536) (b0:0≤b) (b1:b<65536) :((!(decide ((rq (divR (qq ((nz (pw (wM a))),(nz (pw (0:Int))))) (qq ((nz (pw (wM b))),(nz (pw (0:Int)))))))=((nz (pw (IntKind.i64.wrap ((wM a) - ((if (wM b)<(wM a) then (wM b) else (wM a))))))),(nz (pw (IntKind.i64.wrap ((wM b) - ((if (wM b)<(wM a) then (wM b) else (wM a))))))))))))=false:=by
 obtain ⟨m,n,A,M,D,em,en,hm,hn,eA,eM,eD,sD,rD,cc,sA,nA,rA,sM,nM,rM,e5,e6,e7,e8⟩:=zw a0 a1 b0 b1
 simp only [wM,em,en,eA,eM,eD,sD,rD,cc,sA,sM,z8,z6,e5,e6,e7,e8,Bool.not_true,decide_true,bne_self_eq_false,decide_eq_true_eq,decide_eq_false_iff_not,Bool.not_eq_false',Bool.not_eq_true',beq_iff_eq,bne_iff_ne,beq_eq_false_iff_ne,ne_eq,Int.natCast_inj,Bool.and_eq_true]
 try (first | omega | (rw [Bool.eq_iff_iff];simp;omega))
theorem zaG (a:Int) (b:Int) (a0:0≤a) (a1:a<65536) (b0:0≤b) (b1:b<65536) :-9223372036854775808≤(wM a):=by
 obtain ⟨m,n,A,M,D,em,en,hm,hn,eA,eM,eD,sD,rD,cc,sA,nA,rA,sM,nM,rM,e5,e6,e7,e8⟩:=zw a0 a1 b0 b1
 simp only [wM,em,en,eA,eM,eD,sD,rD,cc,sA,sM,z8,z6,e5,e6,e7,e8,Bool.not_true,decide_true,bne_self_eq_false,decide_eq_true_eq,decide_eq_false_iff_not,Bool.not_eq_false',Bool.not_eq_true',beq_iff_eq,bne_iff_ne,beq_eq_false_iff_ne,ne_eq,Int.natCast_inj,Bool.and_eq_true]
 try (first | omega | (rw [Bool.eq_iff_iff];simp;omega))
theorem zaH (a:Int) (b:Int) (a0:0≤a) (a1:a<65536) (b0:0≤b) (b1:b<65536) :(wM a)<9223372036854775808:=by
 obtain ⟨m,n,A,M,D,em,en,hm,hn,eA,eM,eD,sD,rD,cc,sA,nA,rA,sM,nM,rM,e5,e6,e7,e8⟩:=zw a0 a1 b0 b1
 simp only [wM,em,en,eA,eM,eD,sD,rD,cc,sA,sM,z8,z6,e5,e6,e7,e8,Bool.not_true,decide_true,bne_self_eq_false,decide_eq_true_eq,decide_eq_false_iff_not,Bool.not_eq_false',Bool.not_eq_true',beq_iff_eq,bne_iff_ne,beq_eq_false_iff_ne,ne_eq,Int.natCast_inj,Bool.and_eq_true]
 try (first | omega | (rw [Bool.eq_iff_iff];simp;omega))
theorem zaI (a:Int) (b:Int) (a0:0≤a) (a1:a<65536) (b0:0≤b) (b1:b<65536) :-9223372036854775808≤(wM b):=by
 obtain ⟨m,n,A,M,D,em,en,hm,hn,eA,eM,eD,sD,rD,cc,sA,nA,rA,sM,nM,rM,e5,e6,e7,e8⟩:=zw a0 a1 b0 b1
 simp only [wM,em,en,eA,eM,eD,sD,rD,cc,sA,sM,z8,z6,e5,e6,e7,e8,Bool.not_true,decide_true,bne_self_eq_false,decide_eq_true_eq,decide_eq_false_iff_not,Bool.not_eq_false',Bool.not_eq_true',beq_iff_eq,bne_iff_ne,beq_eq_false_iff_ne,ne_eq,Int.natCast_inj,Bool.and_eq_true]
 try (first | omega | (rw [Bool.eq_iff_iff];simp;omega))
theorem zah (a:Int) (b:Int) (a0:0≤a) (a1:a<65536) (b0:0≤b) (b1:b<65536) :(wM b)<9223372036854775808:=by
 obtain ⟨m,n,A,M,D,em,en,hm,hn,eA,eM,eD,sD,rD,cc,sA,nA,rA,sM,nM,rM,e5,e6,e7,e8⟩:=zw a0 a1 b0 b1
 simp only [wM,em,en,eA,eM,eD,sD,rD,cc,sA,sM,z8,z6,e5,e6,e7,e8,Bool.not_true,decide_true,bne_self_eq_false,decide_eq_true_eq,decide_eq_false_iff_not,Bool.not_eq_false',Bool.not_eq_true',beq_iff_eq,bne_iff_ne,beq_eq_false_iff_ne,ne_eq,Int.natCast_inj,Bool.and_eq_true]
 try (first | omega | (rw [Bool.eq_iff_iff];simp;omega))
theorem zai (a:Int) (b:Int) (a0:0≤a) (a1:a<65536) (b0:0≤b) (b1:b<65536) :((((cmpO (qq ((nz (pw (wM a))),(nz (pw (0:Int))))) (qq ((nz (pw (wM b))),(nz (pw (0:Int)))))) != (cmpX (nz (wM a)) (nz (wM b))))))=false:=by
 obtain ⟨m,n,A,M,D,em,en,hm,hn,eA,eM,eD,sD,rD,cc,sA,nA,rA,sM,nM,rM,e5,e6,e7,e8⟩:=zw a0 a1 b0 b1
 simp only [wM,em,en,eA,eM,eD,sD,rD,cc,sA,sM,z8,z6,e5,e6,e7,e8,Bool.not_true,decide_true,bne_self_eq_false,decide_eq_true_eq,decide_eq_false_iff_not,Bool.not_eq_false',Bool.not_eq_true',beq_iff_eq,bne_iff_ne,beq_eq_false_iff_ne,ne_eq,Int.natCast_inj,Bool.and_eq_true]
 try (first | omega | (rw [Bool.eq_iff_iff];simp;omega))
theorem zbU (a:Int) (b:Int) (a0:0≤a) (a1:a<65536) (b0:0≤b) (b1:b<65536) (d1:((decide (((if (wM b) > (wM a) then (wM b) else (wM a)))<(2047:Int))))=true):((!(((addR (qq ((nz (pw (wM a))),(nz (pw (0:Int))))) (qq ((nz (pw (wM b))),(nz (pw (0:Int)))))).isSome) == true)))=false:=by
 obtain ⟨m,n,A,M,D,em,en,hm,hn,eA,eM,eD,sD,rD,cc,sA,nA,rA,sM,nM,rM,e5,e6,e7,e8⟩:=zw a0 a1 b0 b1
 simp only [wM,em,en,eA,eM,eD,sD,rD,cc,sA,sM,z8,z6,e5,e6,e7,e8,Bool.not_true,decide_true,bne_self_eq_false,decide_eq_true_eq,decide_eq_false_iff_not,Bool.not_eq_false',Bool.not_eq_true',beq_iff_eq,bne_iff_ne,beq_eq_false_iff_ne,ne_eq,Int.natCast_inj,Bool.and_eq_true] at d1 ⊢
 try (first | omega | (rw [Bool.eq_iff_iff];simp;omega))
theorem zbV (a:Int) (b:Int) (a0:0≤a) (a1:a<65536) (b0:0≤b) (b1:b<65536) (d1:((decide (((if (wM b) > (wM a) then (wM b) else (wM a)))<(2047:Int))))=true):((!((addR (qq ((nz (pw (wM a))),(nz (pw (0:Int))))) (qq ((nz (pw (wM b))),(nz (pw (0:Int)))))).isSome)))=false:=by
 obtain ⟨m,n,A,M,D,em,en,hm,hn,eA,eM,eD,sD,rD,cc,sA,nA,rA,sM,nM,rM,e5,e6,e7,e8⟩:=zw a0 a1 b0 b1
 simp only [wM,em,en,eA,eM,eD,sD,rD,cc,sA,sM,z8,z6,e5,e6,e7,e8,Bool.not_true,decide_true,bne_self_eq_false,decide_eq_true_eq,decide_eq_false_iff_not,Bool.not_eq_false',Bool.not_eq_true',beq_iff_eq,bne_iff_ne,beq_eq_false_iff_ne,ne_eq,Int.natCast_inj,Bool.and_eq_true] at d1 ⊢
 try (first | omega | (rw [Bool.eq_iff_iff];simp;omega))
theorem zeV (a:Int) (b:Int) (a0:0≤a) (a1:a<65536) (b0:0≤b) (b1:b<65536) (d1:((decide (((if (wM b) > (wM a) then (wM b) else (wM a)))<(2047:Int))))=true) (d2:((((wM a) == (wM b))))=true):(((addR (qq ((nz (pw (wM a))),(nz (pw (0:Int))))) (qq ((nz (pw (wM b))),(nz (pw (0:Int)))))).isSome))=true:=by
 obtain ⟨m,n,A,M,D,em,en,hm,hn,eA,eM,eD,sD,rD,cc,sA,nA,rA,sM,nM,rM,e5,e6,e7,e8⟩:=zw a0 a1 b0 b1
 simp only [wM,em,en,eA,eM,eD,sD,rD,cc,sA,sM,z8,z6,e5,e6,e7,e8,Bool.not_true,decide_true,bne_self_eq_false,decide_eq_true_eq,decide_eq_false_iff_not,Bool.not_eq_false',Bool.not_eq_true',beq_iff_eq,bne_iff_ne,beq_eq_false_iff_ne,ne_eq,Int.natCast_inj,Bool.and_eq_true] at d1 d2 ⊢
 try (first | omega | (rw [Bool.eq_iff_iff];simp;omega))
theorem zeW (a:Int) (b:Int) (a0:0≤a) (a1:a<65536) (b0:0≤b) (b1:b<65536) (d1:((decide (((if (wM b) > (wM a) then (wM b) else (wM a)))<(2047:Int))))=true) (d2:((((wM a) == (wM b))))=true):0≤(IntKind.i64.wrap ((wM a)+(1:Int)))∧(IntKind.i64.wrap ((wM a)+(1:Int)))<2048:=by
 obtain ⟨m,n,A,M,D,em,en,hm,hn,eA,eM,eD,sD,rD,cc,sA,nA,rA,sM,nM,rM,e5,e6,e7,e8⟩:=zw a0 a1 b0 b1
 simp only [wM,em,en,eA,eM,eD,sD,rD,cc,sA,sM,z8,z6,e5,e6,e7,e8,Bool.not_true,decide_true,bne_self_eq_false,decide_eq_true_eq,decide_eq_false_iff_not,Bool.not_eq_false',Bool.not_eq_true',beq_iff_eq,bne_iff_ne,beq_eq_false_iff_ne,ne_eq,Int.natCast_inj,Bool.and_eq_true] at d1 d2 ⊢
 try (first | omega | (rw [Bool.eq_iff_iff];simp;omega))
theorem zeX (a:Int) (b:Int) (a0:0≤a) (a1:a<65536) (b0:0≤b) (b1:b<65536) (d1:((decide (((if (wM b) > (wM a) then (wM b) else (wM a)))<(2047:Int))))=true) (d2:((((wM a) == (wM b))))=true):0≤(0:Int)∧(0:Int)<2048:=by simp
theorem zeY (a:Int) (b:Int) (a0:0≤a) (a1:a<65536) (b0:0≤b) (b1:b<65536) (d1:((decide (((if (wM b) > (wM a) then (wM b) else (wM a)))<(2047:Int))))=true) (d2:((((wM a) == (wM b))))=true):((!(decide ((rq (addR (qq ((nz (pw (wM a))),(nz (pw (0:Int))))) (qq ((nz (pw (wM b))),(nz (pw (0:Int)))))))=((nz (pw (IntKind.i64.wrap ((wM a)+(1:Int))))),(nz (pw (0:Int))))))))=false:=by
 obtain ⟨m,n,A,M,D,em,en,hm,hn,eA,eM,eD,sD,rD,cc,sA,nA,rA,sM,nM,rM,e5,e6,e7,e8⟩:=zw a0 a1 b0 b1
 simp only [wM,em,en,eA,eM,eD,sD,rD,cc,sA,sM,z8,z6,e5,e6,e7,e8,Bool.not_true,decide_true,bne_self_eq_false,decide_eq_true_eq,decide_eq_false_iff_not,Bool.not_eq_false',Bool.not_eq_true',beq_iff_eq,bne_iff_ne,beq_eq_false_iff_ne,ne_eq,Int.natCast_inj,Bool.and_eq_true] at d1 d2 ⊢
 try (rw [rA (by omega) (by omega)];done)
theorem zjS (a:Int) (b:Int) (a0:0≤a) (a1:a<65536) (b0:0≤b) (b1:b<65536) (d1:((decide (((if (wM b) > (wM a) then (wM b) else (wM a)))<(2047:Int))))=true) (d2:((((wM a) == (wM b))))=true) (d3:((decide ((IntKind.i64.wrap ((wM a)+(wM b)))<(2048:Int))))=true):((true))=true:=by simp
theorem zjT (a:Int) (b:Int) (a0:0≤a) (a1:a<65536) (b0:0≤b) (b1:b<65536) (d1:((decide (((if (wM b) > (wM a) then (wM b) else (wM a)))<(2047:Int))))=true) (d2:((((wM a) == (wM b))))=true) (d3:((decide ((IntKind.i64.wrap ((wM a)+(wM b)))<(2048:Int))))=true):(((mulR (qq ((nz (pw (wM a))),(nz (pw (0:Int))))) (qq ((nz (pw (wM b))),(nz (pw (0:Int)))))).isSome))=true:=by
 obtain ⟨m,n,A,M,D,em,en,hm,hn,eA,eM,eD,sD,rD,cc,sA,nA,rA,sM,nM,rM,e5,e6,e7,e8⟩:=zw a0 a1 b0 b1
 simp only [wM,em,en,eA,eM,eD,sD,rD,cc,sA,sM,z8,z6,e5,e6,e7,e8,Bool.not_true,decide_true,bne_self_eq_false,decide_eq_true_eq,decide_eq_false_iff_not,Bool.not_eq_false',Bool.not_eq_true',beq_iff_eq,bne_iff_ne,beq_eq_false_iff_ne,ne_eq,Int.natCast_inj,Bool.and_eq_true] at d1 d2 d3 ⊢
 try (first | omega | (rw [Bool.eq_iff_iff];simp;omega))
theorem zjU (a:Int) (b:Int) (a0:0≤a) (a1:a<65536) (b0:0≤b) (b1:b<65536) (d1:((decide (((if (wM b) > (wM a) then (wM b) else (wM a)))<(2047:Int))))=true) (d2:((((wM a) == (wM b))))=true) (d3:((decide ((IntKind.i64.wrap ((wM a)+(wM b)))<(2048:Int))))=true):0≤(IntKind.i64.wrap ((wM a)+(wM b)))∧(IntKind.i64.wrap ((wM a)+(wM b)))<2048:=by
 obtain ⟨m,n,A,M,D,em,en,hm,hn,eA,eM,eD,sD,rD,cc,sA,nA,rA,sM,nM,rM,e5,e6,e7,e8⟩:=zw a0 a1 b0 b1
 simp only [wM,em,en,eA,eM,eD,sD,rD,cc,sA,sM,z8,z6,e5,e6,e7,e8,Bool.not_true,decide_true,bne_self_eq_false,decide_eq_true_eq,decide_eq_false_iff_not,Bool.not_eq_false',Bool.not_eq_true',beq_iff_eq,bne_iff_ne,beq_eq_false_iff_ne,ne_eq,Int.natCast_inj,Bool.and_eq_true] at d1 d2 d3 ⊢
 try (first | omega | (rw [Bool.eq_iff_iff];simp;omega))
theorem zjV (a:Int) (b:Int) (a0:0≤a) (a1:a<65536) (b0:0≤b) (b1:b<65536) (d1:((decide (((if (wM b) > (wM a) then (wM b) else (wM a)))<(2047:Int))))=true) (d2:((((wM a) == (wM b))))=true) (d3:((decide ((IntKind.i64.wrap ((wM a)+(wM b)))<(2048:Int))))=true):0≤(0:Int)∧(0:Int)<2048:=by simp
theorem zjW (a:Int) (b:Int) (a0:0≤a) (a1:a<65536) (b0:0≤b) (b1:b<65536) (d1:((decide (((if (wM b) > (wM a) then (wM b) else (wM a)))<(2047:Int))))=true) (d2:((((wM a) == (wM b))))=true) (d3:((decide ((IntKind.i64.wrap ((wM a)+(wM b)))<(2048:Int))))=true):decide ((rq (mulR (qq ((nz (pw (wM a))),(nz (pw (0:Int))))) (qq ((nz (pw (wM b))),(nz (pw (0:Int)))))))=((nz (pw (IntKind.i64.wrap ((wM a)+(wM b))))),(nz (pw (0:Int)))))=true:=by
 obtain ⟨m,n,A,M,D,em,en,hm,hn,eA,eM,eD,sD,rD,cc,sA,nA,rA,sM,nM,rM,e5,e6,e7,e8⟩:=zw a0 a1 b0 b1
 simp only [wM,em,en,eA,eM,eD,sD,rD,cc,sA,sM,z8,z6,e5,e6,e7,e8,Bool.not_true,decide_true,bne_self_eq_false,decide_eq_true_eq,decide_eq_false_iff_not,Bool.not_eq_false',Bool.not_eq_true',beq_iff_eq,bne_iff_ne,beq_eq_false_iff_ne,ne_eq,Int.natCast_inj,Bool.and_eq_true] at d1 d2 d3 ⊢
 try (rw [rM (by omega)];done)
theorem zjX (a:Int) (b:Int) (a0:0≤a) (a1:a<65536) (b0:0≤b) (b1:b<65536) (d1:((decide (((if (wM b) > (wM a) then (wM b) else (wM a)))<(2047:Int))))=true) (d2:((((wM a) == (wM b))))=true) (d3:((decide ((IntKind.i64.wrap ((wM a)+(wM b)))<(2048:Int))))=false):((true))=true:=by simp
theorem zjY (a:Int) (b:Int) (a0:0≤a) (a1:a<65536) (b0:0≤b) (b1:b<65536) (d1:((decide (((if (wM b) > (wM a) then (wM b) else (wM a)))<(2047:Int))))=true) (d2:((((wM a) == (wM b))))=true) (d3:((decide ((IntKind.i64.wrap ((wM a)+(wM b)))<(2048:Int))))=false):(!((mulR (qq ((nz (pw (wM a))),(nz (pw (0:Int))))) (qq ((nz (pw (wM b))),(nz (pw (0:Int)))))).isSome) && decide ((rq (mulR (qq ((nz (pw (wM a))),(nz (pw (0:Int))))) (qq ((nz (pw (wM b))),(nz (pw (0:Int)))))))=rq none))=true:=by
 obtain ⟨m,n,A,M,D,em,en,hm,hn,eA,eM,eD,sD,rD,cc,sA,nA,rA,sM,nM,rM,e5,e6,e7,e8⟩:=zw a0 a1 b0 b1
 simp only [wM,em,en,eA,eM,eD,sD,rD,cc,sA,sM,z8,z6,e5,e6,e7,e8,Bool.not_true,decide_true,bne_self_eq_false,decide_eq_true_eq,decide_eq_false_iff_not,Bool.not_eq_false',Bool.not_eq_true',beq_iff_eq,bne_iff_ne,beq_eq_false_iff_ne,ne_eq,Int.natCast_inj,Bool.and_eq_true] at d1 d2 d3 ⊢
 try exact ⟨by omega,nM (by rw [sM,decide_eq_false_iff_not];omega)⟩
theorem zjZ (a:Int) (b:Int) (a0:0≤a) (a1:a<65536) (b0:0≤b) (b1:b<65536) (d1:((decide (((if (wM b) > (wM a) then (wM b) else (wM a)))<(2047:Int))))=true) (d2:((((wM a) == (wM b))))=false) (d4:((decide ((IntKind.i64.wrap ((wM a)+(wM b)))<(2048:Int))))=true):((true))=true:=by simp
theorem zj0 (a:Int) (b:Int) (a0:0≤a) (a1:a<65536) (b0:0≤b) (b1:b<65536) (d1:((decide (((if (wM b) > (wM a) then (wM b) else (wM a)))<(2047:Int))))=true) (d2:((((wM a) == (wM b))))=false) (d4:((decide ((IntKind.i64.wrap ((wM a)+(wM b)))<(2048:Int))))=true):(((mulR (qq ((nz (pw (wM a))),(nz (pw (0:Int))))) (qq ((nz (pw (wM b))),(nz (pw (0:Int)))))).isSome))=true:=by
 obtain ⟨m,n,A,M,D,em,en,hm,hn,eA,eM,eD,sD,rD,cc,sA,nA,rA,sM,nM,rM,e5,e6,e7,e8⟩:=zw a0 a1 b0 b1
 simp only [wM,em,en,eA,eM,eD,sD,rD,cc,sA,sM,z8,z6,e5,e6,e7,e8,Bool.not_true,decide_true,bne_self_eq_false,decide_eq_true_eq,decide_eq_false_iff_not,Bool.not_eq_false',Bool.not_eq_true',beq_iff_eq,bne_iff_ne,beq_eq_false_iff_ne,ne_eq,Int.natCast_inj,Bool.and_eq_true] at d1 d2 d4 ⊢
 try (first | omega | (rw [Bool.eq_iff_iff];simp;omega))
theorem zj1 (a:Int) (b:Int) (a0:0≤a) (a1:a<65536) (b0:0≤b) (b1:b<65536) (d1:((decide (((if (wM b) > (wM a) then (wM b) else (wM a)))<(2047:Int))))=true) (d2:((((wM a) == (wM b))))=false) (d4:((decide ((IntKind.i64.wrap ((wM a)+(wM b)))<(2048:Int))))=true):0≤(IntKind.i64.wrap ((wM a)+(wM b)))∧(IntKind.i64.wrap ((wM a)+(wM b)))<2048:=by
 obtain ⟨m,n,A,M,D,em,en,hm,hn,eA,eM,eD,sD,rD,cc,sA,nA,rA,sM,nM,rM,e5,e6,e7,e8⟩:=zw a0 a1 b0 b1
 simp only [wM,em,en,eA,eM,eD,sD,rD,cc,sA,sM,z8,z6,e5,e6,e7,e8,Bool.not_true,decide_true,bne_self_eq_false,decide_eq_true_eq,decide_eq_false_iff_not,Bool.not_eq_false',Bool.not_eq_true',beq_iff_eq,bne_iff_ne,beq_eq_false_iff_ne,ne_eq,Int.natCast_inj,Bool.and_eq_true] at d1 d2 d4 ⊢
 try (first | omega | (rw [Bool.eq_iff_iff];simp;omega))
theorem zj2 (a:Int) (b:Int) (a0:0≤a) (a1:a<65536) (b0:0≤b) (b1:b<65536) (d1:((decide (((if (wM b) > (wM a) then (wM b) else (wM a)))<(2047:Int))))=true) (d2:((((wM a) == (wM b))))=false) (d4:((decide ((IntKind.i64.wrap ((wM a)+(wM b)))<(2048:Int))))=true):0≤(0:Int)∧(0:Int)<2048:=by simp
theorem zj3 (a:Int) (b:Int) (a0:0≤a) (a1:a<65536) (b0:0≤b) (b1:b<65536) (d1:((decide (((if (wM b) > (wM a) then (wM b) else (wM a)))<(2047:Int))))=true) (d2:((((wM a) == (wM b))))=false) (d4:((decide ((IntKind.i64.wrap ((wM a)+(wM b)))<(2048:Int))))=true):decide ((rq (mulR (qq ((nz (pw (wM a))),(nz (pw (0:Int))))) (qq ((nz (pw (wM b))),(nz (pw (0:Int)))))))=((nz (pw (IntKind.i64.wrap ((wM a)+(wM b))))),(nz (pw (0:Int)))))=true:=by
 obtain ⟨m,n,A,M,D,em,en,hm,hn,eA,eM,eD,sD,rD,cc,sA,nA,rA,sM,nM,rM,e5,e6,e7,e8⟩:=zw a0 a1 b0 b1
 simp only [wM,em,en,eA,eM,eD,sD,rD,cc,sA,sM,z8,z6,e5,e6,e7,e8,Bool.not_true,decide_true,bne_self_eq_false,decide_eq_true_eq,decide_eq_false_iff_not,Bool.not_eq_false',Bool.not_eq_true',beq_iff_eq,bne_iff_ne,beq_eq_false_iff_ne,ne_eq,Int.natCast_inj,Bool.and_eq_true] at d1 d2 d4 ⊢
 try (rw [rM (by omega)];done)
theorem zj4 (a:Int) (b:Int) (a0:0≤a) (a1:a<65536) (b0:0≤b) (b1:b<65536) (d1:((decide (((if (wM b) > (wM a) then (wM b) else (wM a)))<(2047:Int))))=true) (d2:((((wM a) == (wM b))))=false) (d4:((decide ((IntKind.i64.wrap ((wM a)+(wM b)))<(2048:Int))))=false):((true))=true:=by simp
theorem zj5 (a:Int) (b:Int) (a0:0≤a) (a1:a<65536) (b0:0≤b) (b1:b<65536) (d1:((decide (((if (wM b) > (wM a) then (wM b) else (wM a)))<(2047:Int))))=true) (d2:((((wM a) == (wM b))))=false) (d4:((decide ((IntKind.i64.wrap ((wM a)+(wM b)))<(2048:Int))))=false):(!((mulR (qq ((nz (pw (wM a))),(nz (pw (0:Int))))) (qq ((nz (pw (wM b))),(nz (pw (0:Int)))))).isSome) && decide ((rq (mulR (qq ((nz (pw (wM a))),(nz (pw (0:Int))))) (qq ((nz (pw (wM b))),(nz (pw (0:Int)))))))=rq none))=true:=by
 obtain ⟨m,n,A,M,D,em,en,hm,hn,eA,eM,eD,sD,rD,cc,sA,nA,rA,sM,nM,rM,e5,e6,e7,e8⟩:=zw a0 a1 b0 b1
 simp only [wM,em,en,eA,eM,eD,sD,rD,cc,sA,sM,z8,z6,e5,e6,e7,e8,Bool.not_true,decide_true,bne_self_eq_false,decide_eq_true_eq,decide_eq_false_iff_not,Bool.not_eq_false',Bool.not_eq_true',beq_iff_eq,bne_iff_ne,beq_eq_false_iff_ne,ne_eq,Int.natCast_inj,Bool.and_eq_true] at d1 d2 d4 ⊢
 try exact ⟨by omega,nM (by rw [sM,decide_eq_false_iff_not];omega)⟩
theorem zcQ (a:Int) (b:Int) (a0:0≤a) (a1:a<65536) (b0:0≤b) (b1:b<65536) (d1:((decide (((if (wM b) > (wM a) then (wM b) else (wM a)))<(2047:Int))))=false):((!(((addR (qq ((nz (pw (wM a))),(nz (pw (0:Int))))) (qq ((nz (pw (wM b))),(nz (pw (0:Int)))))).isSome) == (((wM a) != (wM b))))))=false:=by
 obtain ⟨m,n,A,M,D,em,en,hm,hn,eA,eM,eD,sD,rD,cc,sA,nA,rA,sM,nM,rM,e5,e6,e7,e8⟩:=zw a0 a1 b0 b1
 simp only [wM,em,en,eA,eM,eD,sD,rD,cc,sA,sM,z8,z6,e5,e6,e7,e8,Bool.not_true,decide_true,bne_self_eq_false,decide_eq_true_eq,decide_eq_false_iff_not,Bool.not_eq_false',Bool.not_eq_true',beq_iff_eq,bne_iff_ne,beq_eq_false_iff_ne,ne_eq,Int.natCast_inj,Bool.and_eq_true] at d1 ⊢
 try (first | omega | (rw [Bool.eq_iff_iff];simp;omega))
theorem zj6 (a:Int) (b:Int) (a0:0≤a) (a1:a<65536) (b0:0≤b) (b1:b<65536) (d1:((decide (((if (wM b) > (wM a) then (wM b) else (wM a)))<(2047:Int))))=false) (d5:((!((addR (qq ((nz (pw (wM a))),(nz (pw (0:Int))))) (qq ((nz (pw (wM b))),(nz (pw (0:Int)))))).isSome)))=true):((!((!((addR (qq ((nz (pw (wM a))),(nz (pw (0:Int))))) (qq ((nz (pw (wM b))),(nz (pw (0:Int)))))).isSome) && decide ((rq (addR (qq ((nz (pw (wM a))),(nz (pw (0:Int))))) (qq ((nz (pw (wM b))),(nz (pw (0:Int)))))))=rq none)))))=false:=by
 obtain ⟨m,n,A,M,D,em,en,hm,hn,eA,eM,eD,sD,rD,cc,sA,nA,rA,sM,nM,rM,e5,e6,e7,e8⟩:=zw a0 a1 b0 b1
 simp only [wM,em,en,eA,eM,eD,sD,rD,cc,sA,sM,z8,z6,e5,e6,e7,e8,Bool.not_true,decide_true,bne_self_eq_false,decide_eq_true_eq,decide_eq_false_iff_not,Bool.not_eq_false',Bool.not_eq_true',beq_iff_eq,bne_iff_ne,beq_eq_false_iff_ne,ne_eq,Int.natCast_inj,Bool.and_eq_true] at d1 d5 ⊢
 try (first | exact nA (by rw [sA,decide_eq_false_iff_not];omega) | (rw [nA (by rw [sA,decide_eq_false_iff_not];omega)];simp;omega))
theorem zj7 (a:Int) (b:Int) (a0:0≤a) (a1:a<65536) (b0:0≤b) (b1:b<65536) (d1:((decide (((if (wM b) > (wM a) then (wM b) else (wM a)))<(2047:Int))))=false) (d5:((!((addR (qq ((nz (pw (wM a))),(nz (pw (0:Int))))) (qq ((nz (pw (wM b))),(nz (pw (0:Int)))))).isSome)))=true):((((wM a) == (wM b))))=true:=by
 obtain ⟨m,n,A,M,D,em,en,hm,hn,eA,eM,eD,sD,rD,cc,sA,nA,rA,sM,nM,rM,e5,e6,e7,e8⟩:=zw a0 a1 b0 b1
 simp only [wM,em,en,eA,eM,eD,sD,rD,cc,sA,sM,z8,z6,e5,e6,e7,e8,Bool.not_true,decide_true,bne_self_eq_false,decide_eq_true_eq,decide_eq_false_iff_not,Bool.not_eq_false',Bool.not_eq_true',beq_iff_eq,bne_iff_ne,beq_eq_false_iff_ne,ne_eq,Int.natCast_inj,Bool.and_eq_true] at d1 d5 ⊢
 try (first | omega | (rw [Bool.eq_iff_iff];simp;omega))
theorem zj8 (a:Int) (b:Int) (a0:0≤a) (a1:a<65536) (b0:0≤b) (b1:b<65536) (d1:((decide (((if (wM b) > (wM a) then (wM b) else (wM a)))<(2047:Int))))=false) (d5:((!((addR (qq ((nz (pw (wM a))),(nz (pw (0:Int))))) (qq ((nz (pw (wM b))),(nz (pw (0:Int)))))).isSome)))=true):(((addR (qq ((nz (pw (wM a))),(nz (pw (0:Int))))) (qq ((nz (pw (wM b))),(nz (pw (0:Int)))))).isSome))=false:=by
 obtain ⟨m,n,A,M,D,em,en,hm,hn,eA,eM,eD,sD,rD,cc,sA,nA,rA,sM,nM,rM,e5,e6,e7,e8⟩:=zw a0 a1 b0 b1
 simp only [wM,em,en,eA,eM,eD,sD,rD,cc,sA,sM,z8,z6,e5,e6,e7,e8,Bool.not_true,decide_true,bne_self_eq_false,decide_eq_true_eq,decide_eq_false_iff_not,Bool.not_eq_false',Bool.not_eq_true',beq_iff_eq,bne_iff_ne,beq_eq_false_iff_ne,ne_eq,Int.natCast_inj,Bool.and_eq_true] at d1 d5 ⊢
 try (first | omega | (rw [Bool.eq_iff_iff];simp;omega))
theorem zj9 (a:Int) (b:Int) (a0:0≤a) (a1:a<65536) (b0:0≤b) (b1:b<65536) (d1:((decide (((if (wM b) > (wM a) then (wM b) else (wM a)))<(2047:Int))))=false) (d5:((!((addR (qq ((nz (pw (wM a))),(nz (pw (0:Int))))) (qq ((nz (pw (wM b))),(nz (pw (0:Int)))))).isSome)))=true):((decide ((IntKind.i64.wrap ((wM a)+(wM b)))<(2048:Int))))=false:=by
 obtain ⟨m,n,A,M,D,em,en,hm,hn,eA,eM,eD,sD,rD,cc,sA,nA,rA,sM,nM,rM,e5,e6,e7,e8⟩:=zw a0 a1 b0 b1
 simp only [wM,em,en,eA,eM,eD,sD,rD,cc,sA,sM,z8,z6,e5,e6,e7,e8,Bool.not_true,decide_true,bne_self_eq_false,decide_eq_true_eq,decide_eq_false_iff_not,Bool.not_eq_false',Bool.not_eq_true',beq_iff_eq,bne_iff_ne,beq_eq_false_iff_ne,ne_eq,Int.natCast_inj,Bool.and_eq_true] at d1 d5 ⊢
 try (first | omega | (rw [Bool.eq_iff_iff];simp;omega))
theorem zka (a:Int) (b:Int) (a0:0≤a) (a1:a<65536) (b0:0≤b) (b1:b<65536) (d1:((decide (((if (wM b) > (wM a) then (wM b) else (wM a)))<(2047:Int))))=false) (d5:((!((addR (qq ((nz (pw (wM a))),(nz (pw (0:Int))))) (qq ((nz (pw (wM b))),(nz (pw (0:Int)))))).isSome)))=true):((true))=true:=by simp
theorem zkb (a:Int) (b:Int) (a0:0≤a) (a1:a<65536) (b0:0≤b) (b1:b<65536) (d1:((decide (((if (wM b) > (wM a) then (wM b) else (wM a)))<(2047:Int))))=false) (d5:((!((addR (qq ((nz (pw (wM a))),(nz (pw (0:Int))))) (qq ((nz (pw (wM b))),(nz (pw (0:Int)))))).isSome)))=true):(!((mulR (qq ((nz (pw (wM a))),(nz (pw (0:Int))))) (qq ((nz (pw (wM b))),(nz (pw (0:Int)))))).isSome) && decide ((rq (mulR (qq ((nz (pw (wM a))),(nz (pw (0:Int))))) (qq ((nz (pw (wM b))),(nz (pw (0:Int)))))))=rq none))=true:=by
 obtain ⟨m,n,A,M,D,em,en,hm,hn,eA,eM,eD,sD,rD,cc,sA,nA,rA,sM,nM,rM,e5,e6,e7,e8⟩:=zw a0 a1 b0 b1
 simp only [wM,em,en,eA,eM,eD,sD,rD,cc,sA,sM,z8,z6,e5,e6,e7,e8,Bool.not_true,decide_true,bne_self_eq_false,decide_eq_true_eq,decide_eq_false_iff_not,Bool.not_eq_false',Bool.not_eq_true',beq_iff_eq,bne_iff_ne,beq_eq_false_iff_ne,ne_eq,Int.natCast_inj,Bool.and_eq_true] at d1 d5 ⊢
 try exact ⟨by omega,nM (by rw [sM,decide_eq_false_iff_not];omega)⟩
theorem zeZ (a:Int) (b:Int) (a0:0≤a) (a1:a<65536) (b0:0≤b) (b1:b<65536) (d1:((decide (((if (wM b) > (wM a) then (wM b) else (wM a)))<(2047:Int))))=false) (d5:((!((addR (qq ((nz (pw (wM a))),(nz (pw (0:Int))))) (qq ((nz (pw (wM b))),(nz (pw (0:Int)))))).isSome)))=false):((((wM a) == (wM b))))=false:=by
 obtain ⟨m,n,A,M,D,em,en,hm,hn,eA,eM,eD,sD,rD,cc,sA,nA,rA,sM,nM,rM,e5,e6,e7,e8⟩:=zw a0 a1 b0 b1
 simp only [wM,em,en,eA,eM,eD,sD,rD,cc,sA,sM,z8,z6,e5,e6,e7,e8,Bool.not_true,decide_true,bne_self_eq_false,decide_eq_true_eq,decide_eq_false_iff_not,Bool.not_eq_false',Bool.not_eq_true',beq_iff_eq,bne_iff_ne,beq_eq_false_iff_ne,ne_eq,Int.natCast_inj,Bool.and_eq_true] at d1 d5 ⊢
 try (first | omega | (rw [Bool.eq_iff_iff];simp;omega))
theorem zkc (a:Int) (b:Int) (a0:0≤a) (a1:a<65536) (b0:0≤b) (b1:b<65536) (d1:((decide (((if (wM b) > (wM a) then (wM b) else (wM a)))<(2047:Int))))=false) (d5:((!((addR (qq ((nz (pw (wM a))),(nz (pw (0:Int))))) (qq ((nz (pw (wM b))),(nz (pw (0:Int)))))).isSome)))=false) (d6:((decide ((IntKind.i64.wrap ((wM a)+(wM b)))<(2048:Int))))=true):((true))=true:=by simp
theorem zkd (a:Int) (b:Int) (a0:0≤a) (a1:a<65536) (b0:0≤b) (b1:b<65536) (d1:((decide (((if (wM b) > (wM a) then (wM b) else (wM a)))<(2047:Int))))=false) (d5:((!((addR (qq ((nz (pw (wM a))),(nz (pw (0:Int))))) (qq ((nz (pw (wM b))),(nz (pw (0:Int)))))).isSome)))=false) (d6:((decide ((IntKind.i64.wrap ((wM a)+(wM b)))<(2048:Int))))=true):(((mulR (qq ((nz (pw (wM a))),(nz (pw (0:Int))))) (qq ((nz (pw (wM b))),(nz (pw (0:Int)))))).isSome))=true:=by
 obtain ⟨m,n,A,M,D,em,en,hm,hn,eA,eM,eD,sD,rD,cc,sA,nA,rA,sM,nM,rM,e5,e6,e7,e8⟩:=zw a0 a1 b0 b1
 simp only [wM,em,en,eA,eM,eD,sD,rD,cc,sA,sM,z8,z6,e5,e6,e7,e8,Bool.not_true,decide_true,bne_self_eq_false,decide_eq_true_eq,decide_eq_false_iff_not,Bool.not_eq_false',Bool.not_eq_true',beq_iff_eq,bne_iff_ne,beq_eq_false_iff_ne,ne_eq,Int.natCast_inj,Bool.and_eq_true] at d1 d5 d6 ⊢
 try (first | omega | (rw [Bool.eq_iff_iff];simp;omega))
theorem zke (a:Int) (b:Int) (a0:0≤a) (a1:a<65536) (b0:0≤b) (b1:b<65536) (d1:((decide (((if (wM b) > (wM a) then (wM b) else (wM a)))<(2047:Int))))=false) (d5:((!((addR (qq ((nz (pw (wM a))),(nz (pw (0:Int))))) (qq ((nz (pw (wM b))),(nz (pw (0:Int)))))).isSome)))=false) (d6:((decide ((IntKind.i64.wrap ((wM a)+(wM b)))<(2048:Int))))=true):0≤(IntKind.i64.wrap ((wM a)+(wM b)))∧(IntKind.i64.wrap ((wM a)+(wM b)))<2048:=by
 obtain ⟨m,n,A,M,D,em,en,hm,hn,eA,eM,eD,sD,rD,cc,sA,nA,rA,sM,nM,rM,e5,e6,e7,e8⟩:=zw a0 a1 b0 b1
 simp only [wM,em,en,eA,eM,eD,sD,rD,cc,sA,sM,z8,z6,e5,e6,e7,e8,Bool.not_true,decide_true,bne_self_eq_false,decide_eq_true_eq,decide_eq_false_iff_not,Bool.not_eq_false',Bool.not_eq_true',beq_iff_eq,bne_iff_ne,beq_eq_false_iff_ne,ne_eq,Int.natCast_inj,Bool.and_eq_true] at d1 d5 d6 ⊢
 try (first | omega | (rw [Bool.eq_iff_iff];simp;omega))
theorem zkf (a:Int) (b:Int) (a0:0≤a) (a1:a<65536) (b0:0≤b) (b1:b<65536) (d1:((decide (((if (wM b) > (wM a) then (wM b) else (wM a)))<(2047:Int))))=false) (d5:((!((addR (qq ((nz (pw (wM a))),(nz (pw (0:Int))))) (qq ((nz (pw (wM b))),(nz (pw (0:Int)))))).isSome)))=false) (d6:((decide ((IntKind.i64.wrap ((wM a)+(wM b)))<(2048:Int))))=true):0≤(0:Int)∧(0:Int)<2048:=by simp
theorem zkg (a:Int) (b:Int) (a0:0≤a) (a1:a<65536) (b0:0≤b) (b1:b<65536) (d1:((decide (((if (wM b) > (wM a) then (wM b) else (wM a)))<(2047:Int))))=false) (d5:((!((addR (qq ((nz (pw (wM a))),(nz (pw (0:Int))))) (qq ((nz (pw (wM b))),(nz (pw (0:Int)))))).isSome)))=false) (d6:((decide ((IntKind.i64.wrap ((wM a)+(wM b)))<(2048:Int))))=true):decide ((rq (mulR (qq ((nz (pw (wM a))),(nz (pw (0:Int))))) (qq ((nz (pw (wM b))),(nz (pw (0:Int)))))))=((nz (pw (IntKind.i64.wrap ((wM a)+(wM b))))),(nz (pw (0:Int)))))=true:=by
 obtain ⟨m,n,A,M,D,em,en,hm,hn,eA,eM,eD,sD,rD,cc,sA,nA,rA,sM,nM,rM,e5,e6,e7,e8⟩:=zw a0 a1 b0 b1
 simp only [wM,em,en,eA,eM,eD,sD,rD,cc,sA,sM,z8,z6,e5,e6,e7,e8,Bool.not_true,decide_true,bne_self_eq_false,decide_eq_true_eq,decide_eq_false_iff_not,Bool.not_eq_false',Bool.not_eq_true',beq_iff_eq,bne_iff_ne,beq_eq_false_iff_ne,ne_eq,Int.natCast_inj,Bool.and_eq_true] at d1 d5 d6 ⊢
 try (rw [rM (by omega)];done)
theorem zkh (a:Int) (b:Int) (a0:0≤a) (a1:a<65536) (b0:0≤b) (b1:b<65536) (d1:((decide (((if (wM b) > (wM a) then (wM b) else (wM a)))<(2047:Int))))=false) (d5:((!((addR (qq ((nz (pw (wM a))),(nz (pw (0:Int))))) (qq ((nz (pw (wM b))),(nz (pw (0:Int)))))).isSome)))=false) (d6:((decide ((IntKind.i64.wrap ((wM a)+(wM b)))<(2048:Int))))=false):((true))=true:=by simp
theorem zki (a:Int) (b:Int) (a0:0≤a) (a1:a<65536) (b0:0≤b) (b1:b<65536) (d1:((decide (((if (wM b) > (wM a) then (wM b) else (wM a)))<(2047:Int))))=false) (d5:((!((addR (qq ((nz (pw (wM a))),(nz (pw (0:Int))))) (qq ((nz (pw (wM b))),(nz (pw (0:Int)))))).isSome)))=false) (d6:((decide ((IntKind.i64.wrap ((wM a)+(wM b)))<(2048:Int))))=false):(!((mulR (qq ((nz (pw (wM a))),(nz (pw (0:Int))))) (qq ((nz (pw (wM b))),(nz (pw (0:Int)))))).isSome) && decide ((rq (mulR (qq ((nz (pw (wM a))),(nz (pw (0:Int))))) (qq ((nz (pw (wM b))),(nz (pw (0:Int)))))))=rq none))=true:=by
 obtain ⟨m,n,A,M,D,em,en,hm,hn,eA,eM,eD,sD,rD,cc,sA,nA,rA,sM,nM,rM,e5,e6,e7,e8⟩:=zw a0 a1 b0 b1
 simp only [wM,em,en,eA,eM,eD,sD,rD,cc,sA,sM,z8,z6,e5,e6,e7,e8,Bool.not_true,decide_true,bne_self_eq_false,decide_eq_true_eq,decide_eq_false_iff_not,Bool.not_eq_false',Bool.not_eq_true',beq_iff_eq,bne_iff_ne,beq_eq_false_iff_ne,ne_eq,Int.natCast_inj,Bool.and_eq_true] at d1 d5 d6 ⊢
 try exact ⟨by omega,nM (by rw [sM,decide_eq_false_iff_not];omega)⟩
theorem zqM {w0:World} (hM:∀W,Below w0.heap.size w0 W→MaxT W) (hTS:∀W,Below w0.heap.size w0 W→PowT w0.heap.size W∧SynT w0.heap.size W) (a:Int) (b:Int) (a0:0≤a) (a1:a<65536) (b0:0≤b) (b1:b<65536):Fun (KN w0) Tryz.prog 7 [.o (.c (pV (.int .u16 a))),.o (.c (pV (.int .u16 b)))] (.o (.c (pV (.bool true)))):=by
 rcases Bool.eq_false_or_eq_true ((decide (((if (wM b) > (wM a) then (wM b) else (wM a)))<(2047:Int)))) with d1 | d1
 ·
  rcases Bool.eq_false_or_eq_true ((((wM a) == (wM b)))) with d2 | d2
  ·
   rcases Bool.eq_false_or_eq_true ((decide ((IntKind.i64.wrap ((wM a)+(wM b)))<(2048:Int)))) with d3 | d3
   ·
    exact zlv a b hM hTS _ _ _ _ _ _ _ _ _ _ _ _ _ _ _ _ _ _ _ _ _ _ _ _ _ _ _ _ _ _ _ _ _ _ _ _ _ _ _ _ _ _ _ _ _ rfl rfl rfl rfl rfl rfl rfl rfl rfl rfl rfl rfl rfl rfl rfl rfl rfl rfl rfl rfl rfl rfl rfl rfl rfl rfl rfl rfl rfl rfl rfl rfl rfl rfl rfl rfl rfl rfl rfl rfl rfl rfl rfl rfl (zjW a b a0 a1 b0 b1 d1 d2 d3) (zaA a b a0 a1 b0 b1 ) (ql a b a0 a1 b0 b1 ) (zaB a b a0 a1 b0 b1 ) (ql a b a0 a1 b0 b1 ) (zaC a b a0 a1 b0 b1 ) (zaD a b a0 a1 b0 b1 ) (zaE a b a0 a1 b0 b1 ) (zaF a b a0 a1 b0 b1 ) (zaG a b a0 a1 b0 b1 ) (zaH a b a0 a1 b0 b1 ) (zaI a b a0 a1 b0 b1 ) (zah a b a0 a1 b0 b1 ) (zai a b a0 a1 b0 b1 ) d1 (zbU a b a0 a1 b0 b1 d1) (zbV a b a0 a1 b0 b1 d1) d2 (zeV a b a0 a1 b0 b1 d1 d2) (zeW a b a0 a1 b0 b1 d1 d2) (zeX a b a0 a1 b0 b1 d1 d2) (zeY a b a0 a1 b0 b1 d1 d2) d3 (zjS a b a0 a1 b0 b1 d1 d2 d3) (zjT a b a0 a1 b0 b1 d1 d2 d3) (zjU a b a0 a1 b0 b1 d1 d2 d3) (zjV a b a0 a1 b0 b1 d1 d2 d3)
   ·
    exact zlw a b hM hTS _ _ _ _ _ _ _ _ _ _ _ _ _ _ _ _ _ _ _ _ _ _ _ _ _ _ _ _ _ _ _ _ _ _ _ _ _ _ _ _ _ _ rfl rfl rfl rfl rfl rfl rfl rfl rfl rfl rfl rfl rfl rfl rfl rfl rfl rfl rfl rfl rfl rfl rfl rfl rfl rfl rfl rfl rfl rfl rfl rfl rfl rfl rfl rfl rfl rfl rfl rfl rfl (zjY a b a0 a1 b0 b1 d1 d2 d3) (zaA a b a0 a1 b0 b1 ) (ql a b a0 a1 b0 b1 ) (zaB a b a0 a1 b0 b1 ) (ql a b a0 a1 b0 b1 ) (zaC a b a0 a1 b0 b1 ) (zaD a b a0 a1 b0 b1 ) (zaE a b a0 a1 b0 b1 ) (zaF a b a0 a1 b0 b1 ) (zaG a b a0 a1 b0 b1 ) (zaH a b a0 a1 b0 b1 ) (zaI a b a0 a1 b0 b1 ) (zah a b a0 a1 b0 b1 ) (zai a b a0 a1 b0 b1 ) d1 (zbU a b a0 a1 b0 b1 d1) (zbV a b a0 a1 b0 b1 d1) d2 (zeV a b a0 a1 b0 b1 d1 d2) (zeW a b a0 a1 b0 b1 d1 d2) (zeX a b a0 a1 b0 b1 d1 d2) (zeY a b a0 a1 b0 b1 d1 d2) d3 (zjX a b a0 a1 b0 b1 d1 d2 d3)
  ·
   rcases Bool.eq_false_or_eq_true ((decide ((IntKind.i64.wrap ((wM a)+(wM b)))<(2048:Int)))) with d4 | d4
   ·
    exact zlx a b hM hTS _ _ _ _ _ _ _ _ _ _ _ _ _ _ _ _ _ _ _ _ _ _ _ _ _ _ _ _ _ _ _ _ _ _ _ _ _ _ _ _ rfl rfl rfl rfl rfl rfl rfl rfl rfl rfl rfl rfl rfl rfl rfl rfl rfl rfl rfl rfl rfl rfl rfl rfl rfl rfl rfl rfl rfl rfl rfl rfl rfl rfl rfl rfl rfl rfl rfl (zj3 a b a0 a1 b0 b1 d1 d2 d4) (zaA a b a0 a1 b0 b1 ) (ql a b a0 a1 b0 b1 ) (zaB a b a0 a1 b0 b1 ) (ql a b a0 a1 b0 b1 ) (zaC a b a0 a1 b0 b1 ) (zaD a b a0 a1 b0 b1 ) (zaE a b a0 a1 b0 b1 ) (zaF a b a0 a1 b0 b1 ) (zaG a b a0 a1 b0 b1 ) (zaH a b a0 a1 b0 b1 ) (zaI a b a0 a1 b0 b1 ) (zah a b a0 a1 b0 b1 ) (zai a b a0 a1 b0 b1 ) d1 (zbU a b a0 a1 b0 b1 d1) (zbV a b a0 a1 b0 b1 d1) d2 d4 (zjZ a b a0 a1 b0 b1 d1 d2 d4) (zj0 a b a0 a1 b0 b1 d1 d2 d4) (zj1 a b a0 a1 b0 b1 d1 d2 d4) (zj2 a b a0 a1 b0 b1 d1 d2 d4)
   ·
    exact zly a b hM hTS _ _ _ _ _ _ _ _ _ _ _ _ _ _ _ _ _ _ _ _ _ _ _ _ _ _ _ _ _ _ _ _ _ _ _ _ _ rfl rfl rfl rfl rfl rfl rfl rfl rfl rfl rfl rfl rfl rfl rfl rfl rfl rfl rfl rfl rfl rfl rfl rfl rfl rfl rfl rfl rfl rfl rfl rfl rfl rfl rfl rfl (zj5 a b a0 a1 b0 b1 d1 d2 d4) (zaA a b a0 a1 b0 b1 ) (ql a b a0 a1 b0 b1 ) (zaB a b a0 a1 b0 b1 ) (ql a b a0 a1 b0 b1 ) (zaC a b a0 a1 b0 b1 ) (zaD a b a0 a1 b0 b1 ) (zaE a b a0 a1 b0 b1 ) (zaF a b a0 a1 b0 b1 ) (zaG a b a0 a1 b0 b1 ) (zaH a b a0 a1 b0 b1 ) (zaI a b a0 a1 b0 b1 ) (zah a b a0 a1 b0 b1 ) (zai a b a0 a1 b0 b1 ) d1 (zbU a b a0 a1 b0 b1 d1) (zbV a b a0 a1 b0 b1 d1) d2 d4 (zj4 a b a0 a1 b0 b1 d1 d2 d4)
 ·
  rcases Bool.eq_false_or_eq_true ((!((addR (qq ((nz (pw (wM a))),(nz (pw (0:Int))))) (qq ((nz (pw (wM b))),(nz (pw (0:Int)))))).isSome))) with d5 | d5
  ·
   exact zlz a b hM hTS _ _ _ _ _ _ _ _ _ _ _ _ _ _ _ _ _ _ _ _ _ _ _ _ _ _ _ _ _ _ _ _ _ _ _ _ _ _ _ _ rfl rfl rfl rfl rfl rfl rfl rfl rfl rfl rfl rfl rfl rfl rfl rfl rfl rfl rfl rfl rfl rfl rfl rfl rfl rfl rfl rfl rfl rfl rfl rfl rfl rfl rfl rfl rfl rfl rfl (zkb a b a0 a1 b0 b1 d1 d5) (zaA a b a0 a1 b0 b1 ) (ql a b a0 a1 b0 b1 ) (zaB a b a0 a1 b0 b1 ) (ql a b a0 a1 b0 b1 ) (zaC a b a0 a1 b0 b1 ) (zaD a b a0 a1 b0 b1 ) (zaE a b a0 a1 b0 b1 ) (zaF a b a0 a1 b0 b1 ) (zaG a b a0 a1 b0 b1 ) (zaH a b a0 a1 b0 b1 ) (zaI a b a0 a1 b0 b1 ) (zah a b a0 a1 b0 b1 ) (zai a b a0 a1 b0 b1 ) d1 (zcQ a b a0 a1 b0 b1 d1) d5 (zj6 a b a0 a1 b0 b1 d1 d5) (zj7 a b a0 a1 b0 b1 d1 d5) (zj8 a b a0 a1 b0 b1 d1 d5) (zj9 a b a0 a1 b0 b1 d1 d5) (zka a b a0 a1 b0 b1 d1 d5)
  ·
   rcases Bool.eq_false_or_eq_true ((decide ((IntKind.i64.wrap ((wM a)+(wM b)))<(2048:Int)))) with d6 | d6
   ·
    exact zlA a b hM hTS _ _ _ _ _ _ _ _ _ _ _ _ _ _ _ _ _ _ _ _ _ _ _ _ _ _ _ _ _ _ _ _ _ _ _ _ _ _ _ _ _ rfl rfl rfl rfl rfl rfl rfl rfl rfl rfl rfl rfl rfl rfl rfl rfl rfl rfl rfl rfl rfl rfl rfl rfl rfl rfl rfl rfl rfl rfl rfl rfl rfl rfl rfl rfl rfl rfl rfl rfl (zkg a b a0 a1 b0 b1 d1 d5 d6) (zaA a b a0 a1 b0 b1 ) (ql a b a0 a1 b0 b1 ) (zaB a b a0 a1 b0 b1 ) (ql a b a0 a1 b0 b1 ) (zaC a b a0 a1 b0 b1 ) (zaD a b a0 a1 b0 b1 ) (zaE a b a0 a1 b0 b1 ) (zaF a b a0 a1 b0 b1 ) (zaG a b a0 a1 b0 b1 ) (zaH a b a0 a1 b0 b1 ) (zaI a b a0 a1 b0 b1 ) (zah a b a0 a1 b0 b1 ) (zai a b a0 a1 b0 b1 ) d1 (zcQ a b a0 a1 b0 b1 d1) d5 (zeZ a b a0 a1 b0 b1 d1 d5) d6 (zkc a b a0 a1 b0 b1 d1 d5 d6) (zkd a b a0 a1 b0 b1 d1 d5 d6) (zke a b a0 a1 b0 b1 d1 d5 d6) (zkf a b a0 a1 b0 b1 d1 d5 d6)
   ·
    exact zlB a b hM hTS _ _ _ _ _ _ _ _ _ _ _ _ _ _ _ _ _ _ _ _ _ _ _ _ _ _ _ _ _ _ _ _ _ _ _ _ _ _ rfl rfl rfl rfl rfl rfl rfl rfl rfl rfl rfl rfl rfl rfl rfl rfl rfl rfl rfl rfl rfl rfl rfl rfl rfl rfl rfl rfl rfl rfl rfl rfl rfl rfl rfl rfl rfl (zki a b a0 a1 b0 b1 d1 d5 d6) (zaA a b a0 a1 b0 b1 ) (ql a b a0 a1 b0 b1 ) (zaB a b a0 a1 b0 b1 ) (ql a b a0 a1 b0 b1 ) (zaC a b a0 a1 b0 b1 ) (zaD a b a0 a1 b0 b1 ) (zaE a b a0 a1 b0 b1 ) (zaF a b a0 a1 b0 b1 ) (zaG a b a0 a1 b0 b1 ) (zaH a b a0 a1 b0 b1 ) (zaI a b a0 a1 b0 b1 ) (zah a b a0 a1 b0 b1 ) (zai a b a0 a1 b0 b1 ) d1 (zcQ a b a0 a1 b0 b1 d1) d5 (zeZ a b a0 a1 b0 b1 d1 d5) d6 (zkh a b a0 a1 b0 b1 d1 d5 d6)
end Go.Proofs.YtccjiodohphgnaaGreatDoor
namespace Go.Proofs.YtccjiodohphgnaaGreatDoor
open Go.ChangeShapes Go.WideShapes Go.ChangeAt Go.RowKit Go.Joins Go.Deep
theorem zfe (os:Os) (started:os.Started) (H:Type) (enc:TypeId×Value→H) :
  ReturnsInHanded {} Tryz.checked os 7 .any (fun w args=>(Rows.ratioLongSpec.pre enc Tryz.prog Tryz.f7 [] false w args∧laidMetH Tryz.prog laidL w)∧sizedMet enc Tryz.prog Tryz.f7 (OpenSpec.ofChange Rows.ratioLongSpec) false w args)
   (Rows.ratioLongSpec.post enc Tryz.prog Tryz.f7 false true false false):=by
 refine zaM (C:=Tryz.checked) (X:=fun w _=>laidMetH Tryz.prog laidL w) (fun _ _ _ hh h=>h.of_heap hh) Tryz.own started (by kernel_rfl) Tryz.func7
  (ChangeSpec.witness_shaped (enc:=enc) (C:=Tryz.checked) (os:=os) (X:=fun w _=>laidMetH Tryz.prog laidL w) false (World.doorLaid Tryz.prog 400 os) #[.int .u16 0,.int .u16 0] 8 rfl (World.shaped_of_RefB (by kernel_rfl) (by kernel_rfl)) (by kernel_rfl) (by kernel_rfl) (by kernel_rfl) (zck os _)) ?_
 intro W base args ds gs before hval0 hW hL hsh
 have hval:∀(j:Nat) t v,Tryz.f7.params[j]?=some t→args[j]?=some v→Value.okWide Tryz.prog W .any base t v:=hval0
 have hW':=hW
 obtain ⟨p,q,hA0,hV,rfl,hfz,hnd⟩:=hW
 have hA:DataW.TrodAll enc Tryz.prog W 0 (fun _=>true) true Tryz.f7.params.toList args.toList ds p:=hA0
 rw [Tryz.params7] at hA hval
 obtain ⟨v0,v1,d0,d1,p0,p1,rfl,rfl,rfl,h0,h1⟩:=trodAll_two hA
 obtain ⟨x0,rfl,rfl,rfl,w0⟩:=open_int Tryz.underlying48 (hval 0 48 v0 rfl rfl) h0
 have s0:=bounds_u16 w0
 obtain ⟨x1,rfl,rfl,rfl,w1⟩:=open_int Tryz.underlying48 (hval 1 48 v1 rfl rfl) h1
 have s1:=bounds_u16 w1
 refine (zdv (args:=#[.int .u16 x0,.int .u16 x1]) (zqM (zcq hsh) (zcp hL) x0 x1 s0.1 (by omega) s1.1 (by omega)) ⟨rfl,rfl,trivial⟩).mono fun e W' ⟨he,hb⟩=>?_
 subst he
 exact ⟨_,rfl,zaK rfl Tryz.laidOut (by decide +kernel) 4 (by kernel_rfl) Tryz.underlying4 (fun d hd=>by match d,hd with | [_,_],_=>rfl) hW' hb⟩
theorem zf0:Rows.RatioLongSaid:=
 OpenClaim.holds_of_wide 7 Tryz.f7 rfl rfl rfl rfl rfl rfl rfl ⟨rfl,rfl,rfl,rfl,rfl⟩ rfl rfl rfl rfl rfl (by kernel_rfl) Tryz.func7 (by kernel_rfl)
  (of_decide_eq_true (by kernel_rfl)) (by unfold Func.isWrapper;rw [if_neg (of_decide_eq_false (by kernel_rfl))];exact ⟨rfl,rfl⟩)
  (fun os started H enc _=>zfe os started H enc)
theorem ratioLong_card:Rows.RatioLongCardSaid:=
 Claim7.holds_tied_plain_at .later [] [.data, .data, .data, .sentinel, .sentinel] true (true, "23681dedaca0e9c3ad04b644738b2c5c66df0499f44a887a8592b9d18a9871d5") true
  zf0 (fun _ h=>by cases h) (by kernel_rfl) (fun _ h=>by cases h) ratioLong_row_tie rfl ⟨rfl,rfl⟩ (by kernel_rfl) rfl
  (fun f fn hf hfn=>by
   obtain rfl : f = 7 := Option.some.inj ((show Tryz.prog.funcNamed "collet/colletlaw03.RatioLong" = some 7 by kernel_rfl).symm.trans hf) |>.symm
   obtain rfl:fn=Tryz.f7:=(Option.some.inj (Tryz.func7.symm.trans hfn)).symm
   exact ⟨by kernel_rfl,fun j t ht=>by
    rw [Tryz.params7] at ht
    have hm:t∈[48,48]:=by simpa using Array.mem_of_getElem? ht
    have hall:([48,48].all fun u=>!Tryz.prog.wantsStandIn u)=true:=by kernel_rfl
    exact (show Tryz.prog.wantsStandIn t=false by simpa using List.all_eq_true.1 hall t hm)⟩)
  (by kernel_rfl)
end Go.Proofs.YtccjiodohphgnaaGreatDoor
