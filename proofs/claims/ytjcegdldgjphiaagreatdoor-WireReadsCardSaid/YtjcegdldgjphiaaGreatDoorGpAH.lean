/-
  Merged: NumL, NumM, NumN, NumO.
-/
import Derived.Test.YtjcegdldgjphiaaGreatDoorGpAG
import Derived.Laws.CopyOwn
set_option linter.unusedSimpArgs false
set_option linter.unusedVariables false
set_option maxRecDepth 100000
set_option maxHeartbeats 2000000
namespace Go.Proofs.YtjcegdldgjphiaaGreatDoor
open Go.RowKit Go.Shelf
theorem Tryz.sizeU32:(Tryz.prog.info? 123).map (·.size)=some 1:=by kernel_rfl
theorem zr4 (l:List Nat):∀v∈u32s l,v.oneCell'=true:=fun v hv=>by
 unfold u32s at hv
 obtain ⟨d,_,rfl⟩:=List.mem_map.1 hv
 rfl
theorem zey {W:World} {dT sT ty g n c B cap:Nat} {A:Option Addr} {l z:List Nat} (hu:Tryz.prog.underlying dT=some (.slice 123)) (hz:DBk W g 123 z) (h:Sl W B A n c l) (hn:n≤z.length) :
  ∃w1,(Builtin.copy_ #[dT,sT] ty #[.slice (some ⟨g,0,none⟩) z.length cap,.slice A n c]).run Tryz.prog W=.ok (.int .i64 (n:Nat)) w1∧DBk w1 g 123 (l++z.drop n)∧Below g W w1∧w1.heap.size=W.heap.size:=by
 rcases Nat.eq_zero_or_pos n with h0 | h0
 ·subst h0
  have hl:l=[]:=List.eq_nil_of_length_eq_zero h.len
  subst hl
  exact ⟨W,run_copy_none W dT sT ty 123 _ A z.length cap 0 c hu Tryz.sizeU32 (Nat.min_eq_left (Nat.zero_le _)),by simpa using hz,Below.refl _ _,rfl⟩
 ·obtain ⟨ad,rfl,hb,hc⟩:=h.1.1.2 h0
  have hl:=h.len
  have hmin:(u32s l).length=Nat.min n z.length:=by rw [qt,hl];exact (Nat.min_eq_left hn).symm
  have hr:=run_copy_row (P:=Tryz.prog) W dT sT ty 123 g 0 z.length cap ad n c (u32s z).toArray 123 (u32s l) hu Tryz.sizeU32 hz hmin hc (by simp [qt];omega) (zr4 l)
  have e:(u32s l).length=n:=by rw [qt,hl]
  rw [e] at hr
  refine ⟨_,hr,?_,below_setRow (Below.refl _ _) (Nat.le_refl _) _,by simp [World.setRow]⟩
  unfold DBk
  rw [setRow_heap W g _ _ _ _ hz]
  simp [u32s]
def upD (d by_ c:Nat):Nat:=d*2 ^ by_%4294967296+c
def upC (d by_:Nat):Nat:=d*2 ^ by_ / 4294967296
theorem zuR {d s c:Nat} (hd:d<4294967296) (hs:s≤31) (hc:c<2 ^ s):upD d s c+4294967296*upC d s=d*2 ^ s+c∧upD d s c<4294967296∧upC d s<2 ^ s:=by
 have hp:2 ^ s*2 ^ (32 - s)=4294967296:=by rw [← Nat.pow_add,Nat.add_sub_cancel' (by omega)]
 have h1:d*2 ^ s%4294967296=2 ^ s*(d%2 ^ (32 - s)):=by
  rw [Nat.mul_comm d,← hp,Nat.mul_mod_mul_left]
 have h2:d%2 ^ (32 - s)<2 ^ (32 - s):=Nat.mod_lt _ (Nat.pow_pos (by omega))
 have h3:2 ^ s*(d%2 ^ (32 - s)+1)≤2 ^ s*2 ^ (32 - s):=Nat.mul_le_mul_left _ h2
 rw [hp,Nat.mul_add] at h3
 refine ⟨?_,?_,?_⟩
 ·unfold upD upC
  have:=Nat.div_add_mod (d*2 ^ s) 4294967296
  omega
 ·unfold upD;rw [h1];omega
 ·unfold upC
  rw [Nat.div_lt_iff_lt_mul (by omega),Nat.mul_comm]
  exact Nat.mul_lt_mul_of_pos_left hd (Nat.pow_pos (by omega))
theorem zv7 {d s c:Nat} (hs:s≤31) (hc:c<2 ^ s):bits BinOp.or IntKind.u32 ((d:Int)*2 ^ s%4294967296) (c:Nat)=((upD d s c:Nat):Int)∧(d:Int) / 2 ^ (32 - s)=((upC d s:Nat):Int):=by
 have hp:2 ^ s*2 ^ (32 - s)=4294967296:=by rw [← Nat.pow_add,Nat.add_sub_cancel' (by omega)]
 have h1:d*2 ^ s%4294967296=2 ^ s*(d%2 ^ (32 - s)):=by
  rw [Nat.mul_comm d,← hp,Nat.mul_mod_mul_left]
 have hc2:c<4294967296:=by
  have:2 ^ s≤2 ^ 31:=Nat.pow_le_pow_right (by omega) hs
  omega
 refine ⟨?_,?_⟩
 ·have e:(d:Int)*2 ^ s%4294967296=((d*2 ^ s%4294967296:Nat):Int):=by simp
  rw [e,bor32 _ _ (Nat.mod_lt _ (by omega)) hc2]
  unfold upD
  have:=Nat.shiftLeft_add_eq_or_of_lt hc (d%2 ^ (32 - s))
  rw [Nat.shiftLeft_eq,Nat.mul_comm _ (2 ^ s)] at this
  rw [h1,this]
 ·have e:(d:Int) / 2 ^ (32 - s)=((d / 2 ^ (32 - s):Nat):Int):=by simp
  rw [e]
  unfold upC
  rw [Nat.mul_comm d,← hp,Nat.mul_div_mul_left _ _ (Nat.pow_pos (by omega))]
theorem zuS {O L c P P' d x y S:Nat} (hp:P'=P*4294967296) (h:O+P*c=L*S) (hd:x+4294967296*y=d*S+c):O+P*x+P'*y=(L+P*d)*S:=by
 have e:P*(x+4294967296*y)=P*(d*S+c):=by rw [hd]
 simp only [Nat.mul_add,Nat.add_mul,← Nat.mul_assoc] at e ⊢
 subst hp
 omega
def UpI (src:List Nat) (N s j c:Nat) (o:List Nat):Prop:=
 o.length=N∧Dig o∧c<2 ^ s∧nval (o.take j)+4294967296 ^ j*c=nval (src.take j)*2 ^ s∧∀k,j≤k→dg o k=dg src k
theorem zr5 {src o:List Nat} {N s j c:Nat} (h:UpI src N s j c o) (hs:s≤31) (hj:j<N):UpI src N s (j+1) (upC (dg src j) s) (o.set j (upD (dg src j) s c)):=by
 obtain ⟨h1,h2,h3,h4,h5⟩:=h
 have hd:dg src j<4294967296:=by rw [← h5 j (Nat.le_refl _)];exact dg_lt h2 j
 have sp:=zuR hd hs h3
 refine ⟨by simpa using h1,qM h2 sp.2.1,sp.2.2,?_,fun k hk=>by rw [za1 (by omega)];exact h5 k (by omega)⟩
 rw [zA src,qe _ _ _ (by omega)]
 exact zuS (Nat.pow_succ ..) h4 sp.1
theorem zuP {src o:List Nat} {N s c:Nat} (h:UpI src N s N c o) (hl:src.length=N) (hv:nval src*2 ^ s<4294967296 ^ N):nval o=nval src*2 ^ s:=by
 obtain ⟨h1,h2,h3,h4,h5⟩:=h
 rw [List.take_of_length_le (by omega),List.take_of_length_le (by omega)] at h4
 rcases Nat.eq_zero_or_pos c with h0 | h0
 ·subst h0;simpa using h4
 ·have:4294967296 ^ N*1≤4294967296 ^ N*c:=Nat.mul_le_mul_left _ h0
  omega
def RetUp (N v:Nat) (w:World) (e:Ending) (w':World):Prop:=
 ∃o:List Nat,e=.returned (.slice (some ⟨w.heap.size,0,none⟩) N N)∧DBk w' w.heap.size 123 o∧o.length=N∧Dig o∧nval o=v∧Below w.heap.size w w'∧w'.heap.size=w.heap.size+1
theorem zs6 (A:Option Addr) (n c B s N:Nat) (l:List Nat) (w:World) (h:Sl w B A n c l) (hB:B≤w.heap.size) (hN:N≤2000) (hn:n≤N) (hs:s≤31) (hv:nval l*2 ^ s<4294967296 ^ N) :
  Calls Tryz.prog 121 #[.slice A n c,.int .i64 s,.int .i64 N] w (RetUp N (nval l*2 ^ s) w):=by
 have hmk:=q7 N (by omega)
 have hnew:=DBk.new w 123 N
 have hcpy:=zey (dT:=117) (sT:=117) (ty:=3) (cap:=N) Tryz.underlying117 hnew (h.below (w':=w.alloc (.cells (madeCells #[.int .u32 0] N) 123)) ((Below.refl _ _).alloc hB _)) (by simpa using hn)
 rw [List.length_replicate] at hcpy
 obtain ⟨w1,hcp,hD,hb1,hz1⟩:=hcpy
 rw [World.size_alloc] at hz1
 have hB1:Below w.heap.size w w1:=Below.trans (by go_grown) hb1
 have HZ:=Lib.hid hz1
 have HL:=Lib.hid h.len
 have hdl:=h.dig
 have HS:Hid ((l++(List.replicate N 0).drop n).length=N∧Dig (l++(List.replicate N 0).drop n)∧nval (l++(List.replicate N 0).drop n)=nval l):=by
  refine ⟨by simp [h.len];omega,zbt.2 ⟨hdl,zem (zap _) _⟩,?_⟩
  rw [qp,List.drop_replicate,zbz];simp
 obtain ⟨src,hsrc⟩:∃src,src=l++(List.replicate N 0).drop n:=⟨_,rfl⟩
 rw [← hsrc] at HS hD
 clear hz1 hnew h hsrc hb1
 go_enter Tryz.func121,Tryz.ntmps121
 go_wp2
 clear hcp hmk
 go_loopw [8,18] (fun cy k wr=>∃(j c:Nat) (o:List Nat),j≤N∧cy=.int .u32 c∧k=.int .i64 j∧Hid (UpI src N s j c o)∧DBk wr w.heap.size 123 o∧Below w.heap.size w wr∧Hid (wr.heap.size=w.heap.size+1)) (fun _ k _=>N - (intOf k).toNat)
 case atStart=>exact ⟨0,0,src,by omega,rfl,rfl,⟨HS.out.1,HS.out.2.1,Nat.pow_pos (by omega),by simp [nval],fun _ _=>rfl⟩,hD,hB1,HZ⟩
 case round =>
  obtain ⟨j,c,o,hj,rfl,rfl,hI,hO,hBw,hZ⟩:=hrel
  by_cases hlt:j<N
  ·have e1:=hO.cell (k:=j) (by rw [hI.out.1];exact hlt)
   have f1:=hO.frozen j
   have hz:=hO.lt
   rw [hI.out.2.2.2.2 j (Nat.le_refl _)] at e1
   have hd:=dg_lt HS.out.2.1 j
   have E:=Lib.hid (zv7 (d:=dg src j) hs hI.out.2.2.1)
   have hN2:=Lib.hid (zr5 hI.out hs hlt)
   have hO2:=hO.set j (upD (dg src j) s c)
   have hZ2:Hid ((wr.setCell ⟨w.heap.size,j,none⟩ (.int .u32 (upD (dg src j) s c:Nat))).heap.size=w.heap.size+1):=by
    unfold Hid;rw [← hZ.out];simp [World.setCell]
   clear hI hO hZ
   go_wp2
   rw [E.out.1,E.out.2]
   clear E
   go_roundw
   case rel=>exact ⟨j+1,_,_,by omega,rfl,by go_num,hN2,hO2,by go_grown,hZ2⟩
   case measure=>simp [intOf];omega
  ·obtain rfl:j=N:=by omega
   have hv2:Hid (nval o=nval l*2 ^ s):=by
    have:=zuP hI.out HS.out.1 (by rw [HS.out.2.2];exact hv)
    rw [HS.out.2.2] at this
    exact this
   go_wp2
   go_ret
   exact ⟨o,rfl,hO,hI.out.1,hI.out.2.1,hv2.out,hBw,hZ.out⟩
end Go.Proofs.YtjcegdldgjphiaaGreatDoor
namespace Go.Proofs.YtjcegdldgjphiaaGreatDoor
open Go.RowKit Go.Shelf
def big:Nat:=4294967296 ^ 64
def numv (x:Int):Int:=if x.natAbs<big then x else 0
def okv (x:Int):Bool:=decide (x.natAbs<big)
def negv (x:Int):Bool:=decide (numv x<0)
def znW (x:Int) (w:World) (e:Ending) (w':World):Prop:=
 ∃A n c,e=.returned (.tuple #[.agg #[.bool (negv x),.slice A n c],.bool (okv x)])∧Sl w' w'.heap.size A n c (digs (numv x).natAbs)∧Below w.heap.size w w'
def sgn (neg:Bool) (v:Nat):Int:=if neg then -(v:Int) else v
theorem qA (neg:Bool) (v:Nat):(sgn neg v).natAbs=v:=by cases neg<;>simp [sgn]
theorem zpJ (neg:Bool) (v:Nat):decide (sgn neg v<0)=(neg && decide (v≠0)):=by
 cases neg with
 | false=>simp [sgn]
 | true =>
  rcases Nat.eq_zero_or_pos v with h | h
  ·subst h;rfl
  ·have h2:v≠0:=by omega
   have h3:sgn true v<0:=by simp [sgn];omega
   simp [h2,h3]
theorem zbF {a b a' b':Bool} {A:Option Addr} {n c:Nat} (h1:a=a') (h2:b=b'):Ending.returned (.tuple #[.agg #[.bool a,.slice A n c],.bool b])=.returned (.tuple #[.agg #[.bool a',.slice A n c],.bool b']):=by rw [h1,h2]
theorem zbx (A:Option Addr) (n c B v:Nat) (neg:Bool) (l:List Nat) (w:World) (h:Sl w B A n c l) (hB:B≤w.heap.size) (hv:nval l=v) :
  Calls Tryz.prog 100 #[.slice A n c,.bool neg] w (znW (sgn neg v) w):=by
 have hS:=(h.below (w':=w.alloc (.cells #[.bool false,.slice none 0 0] 30)) ((Below.refl _ _).alloc hB _)).val hv
 have hS0:=Lib.hid ((h.below (w':=w.alloc (.cells #[.bool false,.slice none 0 0] 30)) ((Below.refl _ _).alloc hB _)))
 have hlen:=hS.len
 obtain ⟨n',hn'⟩:∃n',(trimL l).length=n':=⟨_,rfl⟩
 have HV:=Lib.hid hv
 have HN:=Lib.hid hn'
 rw [hn'] at hS hlen
 clear h hn' hv
 rcases Nat.lt_or_ge 64 n' with h64 | h64
 ·have hf:¬ v<big:=fun hlt=>by have:=(zaq v).2 hlt;omega
  have e1:numv (sgn neg v)=0:=by unfold numv;rw [qA,if_neg hf]
  have e2:Hid (negv (sgn neg v)=false∧okv (sgn neg v)=false∧numv (sgn neg v)=0):=⟨by unfold negv;rw [e1];rfl,by unfold okv;rw [qA];exact decide_eq_false hf,e1⟩
  clear hS hlen e1 hf
  go_enter Tryz.func100,Tryz.ntmps100
  go_wp2_with (go_at_call 119;refine (zbj _ _ _ _ _ _ hS0.out.1 hS0.out.2.1 hS0.out.2.2).mono ?_;rw [HN.out];rintro e w' ⟨rfl,rfl⟩)
  exact bodyPost_ret (v:=.tuple #[.agg #[.bool false,.slice none 0 0],.bool false]) (by simp [results,Tryz.f100,go_sem]) rfl ⟨_,_,_,zbF e2.out.1.symm e2.out.2.1.symm,by rw [e2.out.2.2];exact ⟨by rw [show digs (Int.natAbs 0)=[] from zx];exact RD.none_,Nat.le_refl _,by omega⟩,by go_grown⟩
 ·have hf:v<big:=(zaq v).1 (by omega)
  have e1:numv (sgn neg v)=sgn neg v:=by unfold numv;rw [qA,if_pos hf]
  have e3:okv (sgn neg v)=true:=by unfold okv;rw [qA];exact decide_eq_true hf
  have e4:negv (sgn neg v)=(neg && decide (v≠0)):=by unfold negv;rw [e1];exact zpJ neg v
  rcases Nat.eq_zero_or_pos n' with h0 | h0
  ·have hv0:v=0:=zcu.1 (List.eq_nil_of_length_eq_zero (by omega))
   subst h0
   have e2:Hid (negv (sgn neg v)=false∧okv (sgn neg v)=true∧(numv (sgn neg v)).natAbs=0):=⟨by rw [e4,hv0];simp,e3,by rw [e1,qA,hv0]⟩
   clear hS hlen e1 hf e3 e4 hv0 h64
   go_enter Tryz.func100,Tryz.ntmps100
   go_wp2_with (go_at_call 119;refine (zbj _ _ _ _ _ _ hS0.out.1 hS0.out.2.1 hS0.out.2.2).mono ?_;rw [HN.out];rintro e w' ⟨rfl,rfl⟩)
   exact bodyPost_ret (v:=.tuple #[.agg #[.bool false,.slice none 0 0],.bool true]) (by simp [results,Tryz.f100,go_sem]) rfl ⟨_,_,_,zbF e2.out.1.symm e2.out.2.1.symm,by rw [e2.out.2.2];exact ⟨by rw [zx];exact RD.none_,Nat.le_refl _,by omega⟩,by go_grown⟩
  ·have hv0:v≠0:=fun e=>by rw [e,zx] at hlen;simp at hlen;omega
   have e2:Hid (negv (sgn neg v)=neg∧okv (sgn neg v)=true∧(numv (sgn neg v)).natAbs=v):=⟨by rw [e4];simp [hv0],e3,by rw [e1,qA]⟩
   clear e1 hf e3 e4 hv0
   have hmk:=run_make_row' (P:=Tryz.prog) 28 123 (.int .u32 0) 4 Tryz.underlying28 Tryz.infoU32 rfl .i64 .i64 n' (by omega) (by omega)
   have hnew:=DBk.new (w.alloc (.cells #[.bool false,.slice none 0 0] 30)) 123 n'
   have hcpy:=zey (dT:=28) (sT:=117) (ty:=3) (cap:=n') Tryz.underlying28 hnew (hS.below (w':=(w.alloc (.cells #[.bool false,.slice none 0 0] 30)).alloc (.cells (madeCells #[.int .u32 0] n') 123)) ((Below.refl _ _).alloc (by simp;omega) _)) (by simp)
   rw [List.length_replicate,World.size_alloc] at hcpy
   obtain ⟨w1,hcp,hD,hb1,hz1⟩:=hcpy
   rw [World.size_alloc,World.size_alloc] at hz1
   have hd2:List.drop n' (List.replicate n' 0)=[]:=by simp
   rw [hd2,List.append_nil] at hD
   have hB1:Below w.heap.size w w1:=Below.trans (by go_grown) (hb1.mono (by omega))
   have HD:=Lib.hid hD
   have g0:w1.cell? ⟨w.heap.size,0,none⟩=some (.bool false):=(hb1.cell (p:=⟨w.heap.size,0,none⟩) (by simp)).trans (by simp)
   have g1:w1.cell? ⟨w.heap.size,1,none⟩=some (.slice none 0 0):=(hb1.cell (p:=⟨w.heap.size,1,none⟩) (by simp)).trans (by simp)
   have g2:∀i,w1.frozen? ⟨w.heap.size,i,none⟩=false:=fun i=>(hb1.frozen (p:=⟨w.heap.size,i,none⟩) (by simp)).trans (by simp)
   have hz:w.heap.size+1<w1.heap.size:=by omega
   have HL:=Lib.hid hlen
   clear hS hlen hnew hd2 hD hz1 hb1
   go_enter Tryz.func100,Tryz.ntmps100
   go_wp2_with (go_at_call 119;refine (zbj _ _ _ _ _ _ hS0.out.1 hS0.out.2.1 hS0.out.2.2).mono ?_;rw [HN.out];rintro e w' ⟨rfl,rfl⟩)
   have hE:=((HD.out.far (p:=⟨w.heap.size,0,none⟩) (by simp) (.bool neg)).far (p:=⟨w.heap.size,1,none⟩) (by simp) (.slice (some ⟨w.heap.size+1,0,none⟩) n' n'))
   have hsl:=hE.sl (zL v).1 (B:=w.heap.size+1+1) (by omega) (by have:=HL.out;omega)
   rw [HL.out] at hsl
   have q0:=World.cell?_setCell_same' w1 ⟨w.heap.size,0,none⟩ (.bool neg) (by rw [g0];rfl)
   have q1:=World.cell?_setCell_same' (w1.setCell ⟨w.heap.size,0,none⟩ (.bool neg)) ⟨w.heap.size,1,none⟩ (.slice (some ⟨w.heap.size+1,0,none⟩) n' n') (by rw [World.cell?_setCell_other _ _ _ _ (by simp),g1];rfl)
   refine bodyPost_ret (v:=.tuple #[.agg #[.bool neg,.slice (some ⟨w.heap.size+1,0,none⟩) n' n'],.bool true]) ?_ rfl ⟨_,_,_,zbF e2.out.1.symm e2.out.2.1.symm,by rw [e2.out.2.2];exact hsl.more (by simp [World.setCell];omega),by go_grown⟩
   simp [results,Tryz.f100,go_sem,q0,q1]
end Go.Proofs.YtjcegdldgjphiaaGreatDoor
namespace Go.Proofs.YtjcegdldgjphiaaGreatDoor
open Go.RowKit Go.Shelf
attribute [local go_sem] Oper.semAt_some
def zhR (W:World) (g len:Nat):Prop:=∃o:List Nat,DBk W g 123 o∧o.length=len∧Dig o
def KpQ (n₀ Bs gq len:Nat) (A B:World):Prop:=KpD n₀ Bs A B∧(zhR A gq len→zhR B gq len)
theorem kpQ_t {n₀ Bs gq len:Nat} {A B C:World} (h:KpQ n₀ Bs gq len A B) (k:KpQ n₀ Bs gq len B C):KpQ n₀ Bs gq len A C:=⟨kpD_t h.1 k.1,fun x=>k.2 (h.2 x)⟩
theorem kpQ_b {n₀ Bs gq len:Nat} {w:World} (hn:n₀≤w.heap.size) (hs:Bs<w.heap.size) (hq:gq<w.heap.size) (W:World) (l:Nat) (o o':Obj) (hl:w.heap.size≤l) (h:W.heap[l]?=some o) (hc:o.isCells=false) (hw:o.isWalk=false):KpQ n₀ Bs gq len W (W.putObj l o'):=
 ⟨kpD_b hn hs W l o o' hl h hc hw,fun ⟨d,h1,h2⟩=>⟨d,((grownBy_putObj' W l o').block gq h1.lt (fun e=>by cases e;omega)).trans h1,h2⟩⟩
theorem zq7 (n₀ Bs gq len:Nat) (A:World):KpQ n₀ Bs gq len A A:=⟨zg0 _ _ _,id⟩
theorem zqV (F:Fence) (n:Nat) (h66:F.fn 146) (hro:F.round=none) (hn:1≤n) (ll Bs n₀ gq:Nat) (len cap:Nat) (J Jx:List ({k:Nat // k<len}×Nat)→World→Prop)
  (hY:∀pre x W,J pre W→pre.length<len→YieldAt F (n - 1) Tryz.prog ll #[.int .i64 (x.1.1:Nat),.int .u32 (x.2:Nat)] W fun e W' =>
   (e=.returned (.bool true)∧J (pre++[x]) W'∧KpQ n₀ Bs gq len W W')∨(e=.returned (.bool false)∧Jx (pre++[x]) W'))
  (W:World) (hBs:Boxed W Bs 117 (.slice (some ⟨gq,0,none⟩) len cap)) (hS:zhR W gq len) (hlen:len≤cap) (hcap:cap≤1000000) (h0:J [] W) :
  CallsIn F n Tryz.prog 146 #[.func (.yield ll) #[] #[],.pointer (some ⟨Bs,0,none⟩)] W fun e W'=>(∃v,e=.returned v) ∧
   ((∃ys,ys.map (·.1)=downs len∧J ys W')∨(∃pre,pre.map (·.1) <+: downs len∧Jx pre W')):=by
 refine callsIn_of_wp Tryz.func146 rfl h66 ?_ hro
 simp only [Tryz.ntmps146,List.size_toArray,List.length_cons,List.length_nil,Nat.reduceAdd,Nat.reduceSub,Array.replicate_succ,Array.replicate_zero,List.push_toArray,List.append_toArray,List.nil_append,List.cons_append]
 have hbc:=hBs.cell
 gi_wp2
 gi_loopw [3] (fun i wr=>∃(r:Nat) (pre:List ({k:Nat // k<len}×Nat)),r≤len∧i=.int .i64 ((r:Int) - 1)∧Hid (pre.map (·.1)=(downs len).take (len - r))∧J pre wr∧KpQ n₀ Bs gq len W wr)
  (fun i _=>(intOf i+1).toNat)
 case atStart=>exact ⟨len,[],Nat.le_refl _,rfl,by unfold Hid;simp,h0,zq7 _ _ _ _ _⟩
 case round =>
  obtain ⟨r,pre,hr,rfl,hP,hJs,hK⟩:=hrel
  have hbc2:wr.cell? ⟨Bs,0,none⟩=some (.slice (some ⟨gq,0,none⟩) len cap):=((Boxed.cell (hK.1.2.trans hBs)))
  clear hbc
  cases r with
  | zero =>
   have hP2:=hP.out
   rw [Nat.sub_zero,List.take_of_length_le (by rw [zZ];omega)] at hP2
   have hP3:=Lib.hid hP2
   clear hP2
   gi_wp2
   go_end0
   exact ⟨⟨_,rfl⟩,.inl ⟨pre,hP3.out,hJs⟩⟩
  | succ r =>
   obtain ⟨o,hO,hol,_⟩:=hK.2 hS
   have hrl:r<len:=by omega
   have hc:=hO.cell (k:=r) (by omega)
   have hz:=hO.lt
   have hpl:pre.length<len:=by have:=congrArg List.length hP.out;rw [List.length_map,List.length_take,zZ] at this;omega
   obtain ⟨fn,tmps,assign,body,hy,hR⟩:=hY pre (⟨r,hrl⟩,dg o r) wr hJs hpl
   dsimp only at hy
   have er:((r+1:Nat):Int) - 1=r:=by omega
   rw [er]
   have hP2:Hid ((pre++[((⟨r,hrl⟩:{k:Nat // k<len}),dg o r)]).map (·.1)=(downs len).take (len - r)):=by
    unfold Hid;rw [List.map_append,hP.out,zdE hrl];rfl
   clear er
   replace hol:=Lib.hid hol
   gi_wp2
   refine hR.mono ?_
   rintro e W3 (⟨rfl,hJ3,hk3⟩ | ⟨rfl,hJx3⟩)
   ·gi_wp2
    go_roundw
    case rel=>exact ⟨r,_,by omega,rfl,hP2,hJ3,kpQ_t hK hk3⟩
    case measure=>simp [intOf]
   ·gi_wp2
    refine bodyPost_ret (results_none rfl _ _ _) rfl ?_
    exact ⟨⟨_,rfl⟩,.inr ⟨_,by rw [hP2.out];exact List.take_prefix _ _,hJx3⟩⟩
theorem zj5 (F:Fence) (n:Nat) (h66:F.fn 146) (hro:F.round=none) (hn:1≤n) (Bs n₀ gq:Nat) (len cap:Nat) (w:World) (hBs:Boxed w Bs 117 (.slice (some ⟨gq,0,none⟩) len cap)) (hS:zhR w gq len) (hlen:len≤cap) (hcap:cap≤1000000) :
  SeqStopsK F n Tryz.prog 146 #[.pointer (some ⟨Bs,0,none⟩)] (fun x:{k:Nat // k<len}×Nat=>#[Value.int .i64 (x.1.1:Nat),Value.int .u32 (x.2:Nat)]) (KpQ n₀ Bs gq len) (fun ys=>ys.map (·.1)=downs len) (fun pre=>pre.map (·.1) <+: downs len) len w:=fun ll J Jx W hW _ _ hY h0 =>
 zqV F n h66 hro hn ll Bs n₀ gq len cap J Jx hY W ((hW.block Bs hBs.lt).trans hBs) (let ⟨o,h1,h2⟩:=hS;⟨o,(hW.block gq h1.lt).trans h1,h2⟩) hlen hcap h0
end Go.Proofs.YtjcegdldgjphiaaGreatDoor
namespace Go.Proofs.YtjcegdldgjphiaaGreatDoor
open Go.RowKit Go.Shelf
def OvG (U V j:Nat) (uo qo:List Nat):Prop:=U=nval uo+4294967296 ^ j*nval (qo.drop j)*V∧nval (uo.drop j)<V
theorem zvD {U p X P P' S S' g Q V:Nat} (hp:P'=P*4294967296) (h:U=p+P*S+P'*Q*V) (hs:S=S'+g*V) (hx:X=p+P*S'):U=X+P*(g+4294967296*Q)*V:=by
 subst hp hs hx
 rw [h,Nat.mul_add P g,Nat.add_mul,Nat.mul_add P S',← Nat.mul_assoc P g,← Nat.mul_assoc P 4294967296]
 omega
theorem zmG {a V x:Nat} (ha:a<4294967296) (hx:x<V):a+4294967296*x<V*4294967296:=by
 have:4294967296*(x+1)≤4294967296*V:=Nat.mul_le_mul_left _ hx
 omega
theorem zrp {U V k n g:Nat} {uo qo p seg seg' s:List Nat} (h:OvG U V (k+1) uo qo) (he:uo=p++seg++s) (hp:p.length=k) (hl:seg.length=n+1) (hl':seg'.length=n+1) (hV:V<4294967296 ^ n) (hd:Dig uo) (hq:k<qo.length)
  (h1:nval seg=nval seg'+g*V) (h2:nval seg<V*4294967296→nval seg'<V):OvG U V k (p++seg'++s) (qo.set k g):=by
 obtain ⟨a1,a2⟩:=h
 have hdrop:uo.drop k=seg++s:=by rw [he,List.append_assoc,← hp,List.drop_left]
 have hz:nval s=0:=by
  have e:uo.drop (k+1)=seg.drop 1++s:=by
   rw [← List.drop_drop,hdrop,List.drop_append_of_le_length (by omega)]
  rw [e,qp,List.length_drop,hl] at a2
  simp only [Nat.add_sub_cancel] at a2
  rcases Nat.eq_zero_or_pos (nval s) with h0 | h0
  ·exact h0
  ·have:4294967296 ^ n*1≤4294967296 ^ n*nval s:=Nat.mul_le_mul_left _ h0
   omega
 have hseg:nval (uo.drop k)=nval seg:=by rw [hdrop,qp,hz];simp
 have hlt:nval seg<V*4294967296:=by
  rw [← hseg,zBQ];exact zmG (dg_lt hd k) a2
 have hdrop':(p++seg'++s).drop k=seg'++s:=by rw [List.append_assoc,← hp,List.drop_left]
 refine ⟨?_,?_⟩
 ·rw [zbT _ _ _ hq]
  have e1:nval uo=nval p+4294967296 ^ k*nval seg:=by rw [he,List.append_assoc,qp,qp,hz,hp];simp
  have e2:nval (p++seg'++s)=nval p+4294967296 ^ k*nval seg':=by rw [List.append_assoc,qp,qp,hz,hp];simp
  rw [e1] at a1
  exact zvD (Nat.pow_succ ..) a1 h1 e2
 ·rw [hdrop',qp,hz]
  simpa using h2 hlt
theorem zpb {l v0 m J s:Nat} {u0 qo:List Nat} (hl:l<4294967296 ^ (J+m)) (hv:4294967296 ^ m≤v0) (hu:nval u0=l*2 ^ s) (hJ:J≤u0.length) (hq:qo.length=J):OvG (l*2 ^ s) (v0*2 ^ s) J u0 qo:=by
 refine ⟨by rw [List.drop_of_length_le (by omega),hu];simp [nval],?_⟩
 have h1:=zby u0 hJ
 have h2:l*2 ^ s<4294967296 ^ (J+m)*2 ^ s:=Nat.mul_lt_mul_of_pos_right hl (Nat.pow_pos (by omega))
 have h3:4294967296 ^ J*(4294967296 ^ m*2 ^ s)≤4294967296 ^ J*(v0*2 ^ s):=Nat.mul_le_mul_left _ (Nat.mul_le_mul_right _ hv)
 rw [Nat.pow_add,Nat.mul_assoc] at h2
 refine Nat.lt_of_mul_lt_mul_left (a:=4294967296 ^ J) ?_
 omega
theorem ztX {l v0 s:Nat} {uo qo:List Nat} (h:OvG (l*2 ^ s) (v0*2 ^ s) 0 uo qo):nval qo=l / v0∧nval uo=l%v0*2 ^ s:=by
 obtain ⟨a1,a2⟩:=h
 simp only [Nat.pow_zero,Nat.one_mul,List.drop_zero] at a1 a2
 have hp:0<2 ^ s:=Nat.pow_pos (by omega)
 constructor
 ·rw [← Nat.mul_div_mul_right l v0 hp,a1,Nat.add_mul_div_right _ _ (by omega),Nat.div_eq_of_lt a2,Nat.zero_add]
 ·rw [← Nat.mul_mod_mul_right,a1,Nat.add_mul_mod_self_right,Nat.mod_eq_of_lt a2]
def rsD (a b s:Nat):Nat:=a / 2 ^ s+b%2 ^ s*2 ^ (32 - s)
theorem zux {a b s:Nat} (ha:a<4294967296) (hs:s≤31):rsD a b s*2 ^ s+a%2 ^ s=a+4294967296*(b%2 ^ s)∧rsD a b s<4294967296:=by
 have hp:2 ^ s*2 ^ (32 - s)=4294967296:=by rw [← Nat.pow_add,Nat.add_sub_cancel' (by omega)]
 have h0:0<2 ^ s:=Nat.pow_pos (by omega)
 have h1:b%2 ^ s<2 ^ s:=Nat.mod_lt _ h0
 have h2:a / 2 ^ s<2 ^ (32 - s):=by rw [Nat.div_lt_iff_lt_mul h0,Nat.mul_comm,hp];exact ha
 have h3:(b%2 ^ s+1)*2 ^ (32 - s)≤2 ^ s*2 ^ (32 - s):=Nat.mul_le_mul_right _ h1
 rw [hp,Nat.add_mul] at h3
 refine ⟨?_,by unfold rsD;omega⟩
 unfold rsD
 have e:=Nat.div_add_mod a (2 ^ s)
 rw [Nat.add_mul,Nat.mul_assoc (b%2 ^ s),Nat.mul_comm (2 ^ (32 - s)),hp,Nat.mul_comm (a / 2 ^ s),Nat.mul_comm (b%2 ^ s)]
 omega
theorem zvW {a b s:Nat} (ha:a<4294967296) (hs:s≤31):bits BinOp.or IntKind.u32 ((a:Int) / 2 ^ s) ((b:Int)*2 ^ (32 - s)%4294967296)=((rsD a b s:Nat):Int):=by
 have hp:2 ^ s*2 ^ (32 - s)=4294967296:=by rw [← Nat.pow_add,Nat.add_sub_cancel' (by omega)]
 have h0:0<2 ^ s:=Nat.pow_pos (by omega)
 have h2:a / 2 ^ s<2 ^ (32 - s):=by rw [Nat.div_lt_iff_lt_mul h0,Nat.mul_comm,hp];exact ha
 have e1:(a:Int) / 2 ^ s=((a / 2 ^ s:Nat):Int):=by simp
 have e2:(b:Int)*2 ^ (32 - s)%4294967296=((b*2 ^ (32 - s)%4294967296:Nat):Int):=by simp
 have e3:b*2 ^ (32 - s)%4294967296=b%2 ^ s*2 ^ (32 - s):=by rw [← hp,Nat.mul_mod_mul_right]
 have h4:a / 2 ^ s<4294967296:=Nat.lt_of_le_of_lt (Nat.div_le_self _ _) ha
 rw [e1,e2,bor32 _ _ h4 (Nat.mod_lt _ (by omega)),e3,Nat.or_comm]
 have:=Nat.shiftLeft_add_eq_or_of_lt h2 (b%2 ^ s)
 rw [Nat.shiftLeft_eq] at this
 rw [← this]
 unfold rsD
 rw [Nat.add_comm]
theorem zvV {R S e U P P' a r x y:Nat} (hp:P'=P*4294967296) (h:R*S+e=U+P*x) (hr:r*S+x=a+4294967296*y):(R+P*r)*S+e=U+P*a+P'*y:=by
 have h2:P*(r*S+x)=P*(a+4294967296*y):=by rw [hr]
 simp only [Nat.mul_add,Nat.add_mul,← Nat.mul_assoc] at h2 ⊢
 subst hp
 omega
def RsI (u:List Nat) (n s j:Nat) (r:List Nat):Prop:=r.length=n∧Dig r∧nval (r.take j)*2 ^ s+dg u 0%2 ^ s=nval (u.take j)+4294967296 ^ j*(dg u j%2 ^ s)
theorem zpG {u:List Nat} {n s:Nat}:RsI u n s 0 (List.replicate n 0):=⟨by simp,zap n,by simp [nval]⟩
theorem zrN {u r:List Nat} {n s j:Nat} (h:RsI u n s j r) (hd:Dig u) (hs:s≤31) (hj:j<n):RsI u n s (j+1) (r.set j (rsD (dg u j) (dg u (j+1)) s)):=by
 obtain ⟨h1,h2,h3⟩:=h
 have sp:=zux (b:=dg u (j+1)) (dg_lt hd j) hs
 refine ⟨by simpa using h1,qM h2 sp.2,?_⟩
 rw [zA u,qe _ _ _ (by omega)]
 exact zvV (Nat.pow_succ ..) h3 sp.1
theorem zuw {u r:List Nat} {n s R:Nat} (h:RsI u n s n r) (hu:n<u.length) (hv:nval u=R*2 ^ s) (hlt:nval u<4294967296 ^ n):nval r=R:=by
 obtain ⟨h1,h2,h3⟩:=h
 have hp:0<2 ^ s:=Nat.pow_pos (by omega)
 have e:=zby u (Nat.le_of_lt hu)
 have hz:nval (u.drop n)=0:=by
  rcases Nat.eq_zero_or_pos (nval (u.drop n)) with h0 | h0
  ·exact h0
  ·have:4294967296 ^ n*1≤4294967296 ^ n*nval (u.drop n):=Nat.mul_le_mul_left _ h0
   omega
 have hd0:dg u n=0:=by have:=zBQ u n;omega
 rw [hz,Nat.mul_zero,Nat.add_zero] at e
 rw [hd0,Nat.zero_mod,Nat.mul_zero,Nat.add_zero,← e,hv,List.take_of_length_le (by omega)] at h3
 have hm:dg u 0%2 ^ s<2 ^ s:=Nat.mod_lt _ hp
 have h4:(nval r*2 ^ s+dg u 0%2 ^ s) / 2 ^ s=R:=by rw [h3,Nat.mul_div_cancel _ hp]
 rw [Nat.add_comm,Nat.add_mul_div_right _ _ hp,Nat.div_eq_of_lt hm,Nat.zero_add] at h4
 exact h4
theorem znf {v:List Nat} {m t s:Nat} (hv:v.length=m+1) (dv:Dig v) (ht:dg v m<2 ^ t) (hs:s+t=32):nval v*2 ^ s<4294967296 ^ (m+1):=by
 have e:=zA v m
 rw [List.take_of_length_le (by omega)] at e
 have h1:=qH (zaV dv m)
 rw [List.length_take,Nat.min_eq_left (by omega)] at h1
 have h2:4294967296 ^ m*(dg v m+1)≤4294967296 ^ m*2 ^ t:=Nat.mul_le_mul_left _ ht
 rw [Nat.mul_add] at h2
 have h3:nval v<4294967296 ^ m*2 ^ t:=by omega
 have h4:nval v*2 ^ s<4294967296 ^ m*2 ^ t*2 ^ s:=Nat.mul_lt_mul_of_pos_right h3 (Nat.pow_pos (by omega))
 rw [Nat.mul_assoc,← Nat.pow_add,Nat.add_comm t s,hs] at h4
 rw [Nat.pow_succ]
 exact h4
theorem zrP {l:List Nat} {N s:Nat} (hl:l.length=N) (dl:Dig l) (hs:s≤31):nval l*2 ^ s<4294967296 ^ (N+1):=by
 have h1:=qH dl
 rw [hl] at h1
 have h2:2 ^ s≤2 ^ 31:=Nat.pow_le_pow_right (by omega) hs
 rw [Nat.pow_succ]
 exact Nat.lt_of_lt_of_le (Nat.mul_lt_mul_of_pos_right h1 (Nat.pow_pos (by omega))) (Nat.mul_le_mul_left _ (by omega))
end Go.Proofs.YtjcegdldgjphiaaGreatDoor
