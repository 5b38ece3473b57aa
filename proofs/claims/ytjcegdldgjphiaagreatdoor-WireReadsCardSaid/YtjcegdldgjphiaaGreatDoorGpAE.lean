/-
  Merged: NumD, NumE, NumF.
-/
import Derived.Test.YtjcegdldgjphiaaGreatDoorGpAD
import Derived.LoopTactic
import Derived.OwnWalk
import Derived.Deep.OwnRows
import Derived.Carry
set_option linter.unusedSimpArgs false
set_option linter.unusedVariables false
set_option maxHeartbeats 400000
namespace Go.Proofs.YtjcegdldgjphiaaGreatDoor
open Go.RowKit
def dg (l:List Nat) (k:Nat):Nat:=l.getD k 0
theorem dg_lt {l:List Nat} (h:Dig l) (k:Nat):dg l k<4294967296:=by
 unfold dg
 rw [List.getD_eq_getElem?_getD]
 rcases Nat.lt_or_ge k l.length with h1 | h1
 ·rw [List.getElem?_eq_getElem h1];exact h _ (List.getElem_mem h1)
 ·rw [List.getElem?_eq_none h1];simp
theorem zdA {l:List Nat} {k:Nat} (h:l.length≤k):dg l k=0:=by
 unfold dg;rw [List.getD_eq_getElem?_getD,List.getElem?_eq_none h];rfl
theorem zb2 {l:List Nat} {k:Nat} (h:k<l.length):dg l k=l[k]:=by
 unfold dg;rw [List.getD_eq_getElem?_getD,List.getElem?_eq_getElem h];rfl
theorem zA (l:List Nat) (k:Nat):nval (l.take (k+1))=nval (l.take k)+4294967296 ^ k*dg l k:=by
 rcases Nat.lt_or_ge k l.length with h | h
 ·rw [zcH h,zb2 h]
 ·rw [zfr h,zdA h];simp
theorem qe (o:List Nat) (k d:Nat) (h:k<o.length):nval ((o.set k d).take (k+1))=nval (o.take k)+4294967296 ^ k*d:=by
 rw [zcH (by simpa using h),List.getElem_set_self,List.take_set_of_le (Nat.le_refl _)]
theorem qM {o:List Nat} {k d:Nat} (h:Dig o) (hd:d<4294967296):Dig (o.set k d):=fun x hx=>by
 rcases List.mem_or_eq_of_mem_set hx with h1 | h1
 ·exact h _ h1
 ·omega
theorem zap (n:Nat):Dig (List.replicate n 0):=fun d hd=>by rw [List.eq_of_mem_replicate hd];omega
def Sl (w:World) (B:Nat) (A:Option Addr) (n c:Nat) (l:List Nat):Prop:=RD w B A n l∧n≤c∧c≤9223372036854775807
theorem Sl.len {w:World} {B n c:Nat} {A:Option Addr} {l:List Nat} (h:Sl w B A n c l):l.length=n:=h.1.len
theorem Sl.dig {w:World} {B n c:Nat} {A:Option Addr} {l:List Nat} (h:Sl w B A n c l):Dig l:=h.1.2
theorem Sl.at_ {w:World} {B n c k:Nat} {A:Option Addr} {l:List Nat} (h:Sl w B A n c l) (hk:k<n):∃ad:Addr,A=some ad∧ad.block<B∧w.cell? (ad.add k)=some (.int .u32 (dg l k:Nat)):=by
 obtain ⟨ad,hl,e,hb,hc,_⟩:=h.1.at_ hk
 exact ⟨ad,e,hb,by rw [zb2 hl];exact hc⟩
theorem Sl.below {w w':World} {B n c:Nat} {A:Option Addr} {l:List Nat} (h:Sl w B A n c l) (hb:Below B w w'):Sl w' B A n c l:=⟨h.1.below hb,h.2⟩
theorem Sl.more {w:World} {B B' n c:Nat} {A:Option Addr} {l:List Nat} (h:Sl w B A n c l) (hB:B≤B'):Sl w B' A n c l:=⟨h.1.more hB,h.2⟩
theorem Sl.none_ {w:World} {B:Nat}:Sl w B none 0 0 []:=⟨RD.none_,Nat.le_refl _,by omega⟩
theorem Sl.take {w:World} {B n c:Nat} {A:Option Addr} {l:List Nat} (h:Sl w B A n c l) {k:Nat} (hk:k≤n):Sl w B A k c (l.take k):=⟨h.1.take hk,by have:=h.2;omega⟩
theorem Sl.trim {w:World} {B n c:Nat} {A:Option Addr} {l:List Nat} (h:Sl w B A n c l):Sl w B A (trimL l).length c (trimL l):=by
 have hk:(trimL l).length≤n:=by have:=zco l;rw [h.len] at this;exact this
 have:=h.take hk
 rwa [zgg] at this
theorem Sl.val {w:World} {B n c v:Nat} {A:Option Addr} {l:List Nat} (h:Sl w B A n c l) (hv:nval l=v):Sl w B A (trimL l).length c (digs v):=by
 subst hv;rw [← zbE h.dig];exact h.trim
def DBk (w:World) (g:Nat) (T:TypeId) (l:List Nat):Prop:=w.heap[g]?=some (.cells (u32s l).toArray T (0,0))
theorem DBk.lt {w:World} {g T:Nat} {l:List Nat} (h:DBk w g T l):g<w.heap.size:=zaB h
theorem DBk.cell {w:World} {g T:Nat} {l:List Nat} (h:DBk w g T l) {k:Nat} (hk:k<l.length):w.cell? ⟨g,k,none⟩=some (.int .u32 (dg l k:Nat)):=by
 rw [zaL h,zb2 hk]
 simp [u32s,hk]
theorem DBk.frozen {w:World} {g T:Nat} {l:List Nat} (h:DBk w g T l) (k:Nat):w.frozen? ⟨g,k,none⟩=false:=zbn h
theorem DBk.set {w:World} {g T:Nat} {l:List Nat} (h:DBk w g T l) (k d:Nat):DBk (w.setCell ⟨g,k,none⟩ (.int .u32 (d:Int))) g T (l.set k d):=by
 unfold DBk at h ⊢
 simp [World.setCell,Array.getElem?_modify,h,u32s,List.map_set]
theorem DBk.below {w w':World} {g T:Nat} {l:List Nat} (h:DBk w g T l) {B:Nat} (hb:Below B w w') (hg:g<B):DBk w' g T l:=(hb.block g hg).trans h
theorem DBk.alloc {w:World} {g T:Nat} {l:List Nat} (h:DBk w g T l) (o:Obj):DBk (w.alloc o) g T l:=(Below.heap_alloc w o g h.lt).trans h
theorem DBk.sl {w:World} {g T B:Nat} {l:List Nat} (h:DBk w g T l) (hd:Dig l) (hg:g<B) (hl:l.length≤1000000):Sl w B (some ⟨g,0,none⟩) l.length l.length l:=by
 refine ⟨⟨⟨by simp [qt],fun _=>⟨_,rfl,hg,fun j u hu=>?_⟩⟩,hd⟩,Nat.le_refl _,by omega⟩
 have e:(⟨g,0,none⟩:Addr).add j=⟨g,j,none⟩:=by unfold Addr.add;split<;>simp [*]
 rw [e,zaL h]
 simpa using hu
theorem zg3 (n:Nat):madeCells #[.int .u32 0] n=(u32s (List.replicate n 0)).toArray:=by
 apply Array.ext
 ·simp [madeCells,u32s]
 ·intro i h1 h2
  simp [madeCells,u32s,Nat.mod_one]
theorem DBk.new (w:World) (T n:Nat):DBk (w.alloc (.cells (madeCells #[.int .u32 0] n) T)) w.heap.size T (List.replicate n 0):=by
 unfold DBk;rw [zg3];exact heap_alloc_new w _
theorem Tryz.infoU32:(Tryz.prog.info? 123).map (fun i=>(i.zero,i.size,i.bytes))=some (some (.int .u32 0),1,4):=by kernel_rfl
theorem q7 (n:Nat) (hn:n≤1000000):∀w,(Instr.makeSlice 117 (.int .i64 (n:Int)) (.int .i64 (n:Int))).run Tryz.prog w=.ok (.slice (some ⟨w.heap.size,0,none⟩) n n) (w.alloc (.cells (madeCells #[.int .u32 0] n) 123)):=
 run_make_row' (P:=Tryz.prog) 117 123 (.int .u32 0) 4 Tryz.underlying117 Tryz.infoU32 rfl .i64 .i64 n (by omega) (by omega)
def RetD (v:Nat) (w:World) (e:Ending) (w':World):Prop:=∃A n c,e=.returned (.slice A n c)∧Sl w' w'.heap.size A n c (digs v)∧Below w.heap.size w w'
theorem zhr {A:Option Addr} {n c B v:Nat} {l:List Nat} {w:World} (h:Sl w B A n c l) (hv:nval l=v) :
  Calls Tryz.prog 119 #[.slice A n c] w fun e w'=>∃n',e=.returned (.slice A n' c)∧Sl w B A n' c (digs v)∧w=w' :=
 (zbj A n c B l w h.1 h.2.1 h.2.2).mono fun _ _ ⟨he,hw⟩=>⟨_,he,h.val hv,hw⟩
theorem zmF {L M O bw l m P P' d b:Nat} (hp:P'=P*4294967296) (hd:d+m+bw=l+4294967296*b) (h:L+P*bw=O+M) :
  L+P*l+P'*b=O+P*d+(M+P*m):=by
 have:P*(d+m+bw)=P*(l+4294967296*b):=by rw [hd]
 simp only [Nat.mul_add,← Nat.mul_assoc] at this
 subst hp
 omega
theorem zeR {L M O c l m P P' d b:Nat} (hp:P'=P*4294967296) (hd:d+4294967296*b=l+m+c) (h:O+P*c=L+M) :
  O+P*d+P'*b=L+P*l+(M+P*m):=by
 have:P*(d+4294967296*b)=P*(l+m+c):=by rw [hd]
 simp only [Nat.mul_add,← Nat.mul_assoc] at this
 subst hp
 omega
end Go.Proofs.YtjcegdldgjphiaaGreatDoor
namespace Go.Proofs.YtjcegdldgjphiaaGreatDoor
open Go.RowKit
theorem zt0 (A A2:Option Addr) (n c n2 c2 B:Nat) (l m:List Nat) (w:World) (h:Sl w B A n c l) (h2:Sl w B A2 n2 c2 m) (hB:B≤w.heap.size) (hn:n≤1000) (hn2:n2≤n) :
  Calls Tryz.prog 139 #[.slice A n c,.slice A2 n2 c2] w (RetD (nval l+nval m) w):=by
 have HL:=Lib.hid h.len
 have HL2:=Lib.hid h2.len
 have H:=Lib.hid h
 have H2:=Lib.hid h2
 clear h h2
 have hmk:=q7 (n+1) (by omega)
 have ec:((n+1:Nat):Int)=(n:Int)+1:=by omega
 rw [ec] at hmk
 clear ec
 have hdn:decide (n<n2)=false:=by simp;omega
 go_enter Tryz.func139,Tryz.ntmps139
 go_wp2
 clear hmk
 go_loopw [6,23] (fun b k wr=>∃(j bw:Nat) (o:List Nat),j≤n∧bw≤1∧k=.int .i64 j∧b=.int .u32 bw∧DBk wr w.heap.size 123 o∧Hid (o.length=n+1∧Dig o∧nval (o.take j)+4294967296 ^ j*bw=nval (l.take j)+nval (m.take j))∧Below w.heap.size w wr) (fun _ k _=>n - (intOf k).toNat)
 case atStart=>exact ⟨0,0,List.replicate (n+1) 0,by omega,by omega,rfl,rfl,DBk.new w _ (n+1),by unfold Hid;exact ⟨by simp,zap _,by simp [nval]⟩,by go_grown⟩
 case round =>
  obtain ⟨j,bw,o,hj,hbw,rfl,rfl,hO,hI,hBw⟩:=hrel
  by_cases hlt:j<n
  ·obtain ⟨ad,rfl,hb,hc⟩:=(H.out.below (hBw.mono hB)).at_ (k:=j) hlt
   have hd1:=dg_lt H.out.dig j
   have hd2:=dg_lt H2.out.dig j
   have hcg:=hO.cell (k:=j) (by rw [hI.out.1];omega)
   have hfg:=hO.frozen j
   have hz:=hO.lt
   obtain ⟨y,hy⟩:∃y,dg m j=y:=⟨_,rfl⟩
   have hN:Hid ((o.set j (adD (dg l j) y bw)).length=n+1∧Dig (o.set j (adD (dg l j) y bw))∧nval ((o.set j (adD (dg l j) y bw)).take (j+1))+4294967296 ^ (j+1)*adC (dg l j) y bw=nval (l.take (j+1))+nval (m.take (j+1))):=by
    obtain ⟨i1,i2,i3⟩:=hI.out
    rw [hy] at hd2
    have s:=zdu hd1 hd2 hbw
    refine ⟨by simpa using i1,qM i2 s.2.1,?_⟩
    rw [zA l,zA m,qe _ _ _ (by omega),hy]
    exact zeR (Nat.pow_succ ..) s.1 i3
   have hb1:=(zdu hd1 (by rw [← hy];exact hd2:y<4294967296) hbw).2.2
   have hO2:=hO.set j (adD (dg l j) y bw)
   clear hO hI
   by_cases hlt2:j<n2
   ·obtain ⟨ad2,rfl,hb2,hc2⟩:=(H2.out.below (hBw.mono hB)).at_ (k:=j) hlt2
    rw [hy] at hc2 hd2
    clear hy
    go_wp2_with (go_at_call 149;refine (zcr (dg l j) y bw _ hd1 hd2 hbw).mono ?_;rintro e w' ⟨rfl,rfl⟩)
    go_roundw
    case rel=>exact ⟨j+1,_,_,by omega,hb1,by go_num,rfl,hO2,hN,by go_grown⟩
    case measure=>simp [intOf];omega
   ·obtain rfl:0=y:=by rw [← hy];exact (zdA (by have:=HL2.out;omega)).symm
    clear hy hd2
    go_wp2_with (go_at_call 149;refine (zcr (dg l j) 0 bw _ hd1 (by omega) hbw).mono ?_;rintro e w' ⟨rfl,rfl⟩)
    go_roundw
    case rel=>exact ⟨j+1,_,_,by omega,hb1,by go_num,rfl,hO2,hN,by go_grown⟩
    case measure=>simp [intOf];omega
  ·have hjn:j=n:=by omega
   have hO2:=hO.set n bw
   have hv:Hid (nval (o.set n bw)=nval l+nval m):=by
    obtain ⟨i1,i2,i3⟩:=hI.out
    have h1:=HL.out
    have h2:=HL2.out
    rw [List.take_of_length_le (l:=l) (by omega),List.take_of_length_le (l:=m) (by omega)] at i3
    unfold Hid
    rw [← i3,← List.take_of_length_le (l:=o.set n bw) (i:=n+1) (by simp;omega),qe _ _ _ (by omega),hjn]
   have hsl:Sl (wr.setCell ⟨w.heap.size,n,none⟩ (.int .u32 bw)) (w.heap.size+1) (some ⟨w.heap.size,0,none⟩) (n+1) (n+1) (o.set n bw):=by
    obtain ⟨i1,i2,i3⟩:=hI.out
    have:=hO2.sl (qM i2 (by omega)) (B:=w.heap.size+1) (by omega) (by simp;omega)
    rw [List.length_set,i1] at this
    exact this
   have hcg:=hO.cell (k:=n) (by rw [hI.out.1];omega)
   have hfg:=hO.frozen n
   have hz:=hO.lt
   clear hjn hO hI hO2
   go_wp2_with (go_at_call 119;refine (zhr hsl hv.out).mono ?_;rintro e w' ⟨n',rfl,hs',rfl⟩)
   go_ret
   exact ⟨_,_,_,rfl,hs'.more (by simp;omega),by go_grown⟩
theorem zt1 (A A2:Option Addr) (n c n2 c2 B:Nat) (l m:List Nat) (w:World) (h:Sl w B A n c l) (h2:Sl w B A2 n2 c2 m) (hB:B≤w.heap.size) (hn:n≤1000) (hn2:n2<n) :
  Calls Tryz.prog 139 #[.slice A2 n2 c2,.slice A n c] w (RetD (nval l+nval m) w):=by
 have HL:=Lib.hid h.len
 have HL2:=Lib.hid h2.len
 have H:=Lib.hid h
 have H2:=Lib.hid h2
 clear h h2
 have hmk:=q7 (n+1) (by omega)
 have ec:((n+1:Nat):Int)=(n:Int)+1:=by omega
 rw [ec] at hmk
 clear ec
 have hdn:decide (n2<n)=true:=by simp;omega
 go_enter Tryz.func139,Tryz.ntmps139
 go_wp2
 clear hmk
 go_loopw [6,23] (fun b k wr=>∃(j bw:Nat) (o:List Nat),j≤n∧bw≤1∧k=.int .i64 j∧b=.int .u32 bw∧DBk wr w.heap.size 123 o∧Hid (o.length=n+1∧Dig o∧nval (o.take j)+4294967296 ^ j*bw=nval (l.take j)+nval (m.take j))∧Below w.heap.size w wr) (fun _ k _=>n - (intOf k).toNat)
 case atStart=>exact ⟨0,0,List.replicate (n+1) 0,by omega,by omega,rfl,rfl,DBk.new w _ (n+1),by unfold Hid;exact ⟨by simp,zap _,by simp [nval]⟩,by go_grown⟩
 case round =>
  obtain ⟨j,bw,o,hj,hbw,rfl,rfl,hO,hI,hBw⟩:=hrel
  by_cases hlt:j<n
  ·obtain ⟨ad,rfl,hb,hc⟩:=(H.out.below (hBw.mono hB)).at_ (k:=j) hlt
   have hd1:=dg_lt H.out.dig j
   have hd2:=dg_lt H2.out.dig j
   have hcg:=hO.cell (k:=j) (by rw [hI.out.1];omega)
   have hfg:=hO.frozen j
   have hz:=hO.lt
   obtain ⟨y,hy⟩:∃y,dg m j=y:=⟨_,rfl⟩
   have hN:Hid ((o.set j (adD (dg l j) y bw)).length=n+1∧Dig (o.set j (adD (dg l j) y bw))∧nval ((o.set j (adD (dg l j) y bw)).take (j+1))+4294967296 ^ (j+1)*adC (dg l j) y bw=nval (l.take (j+1))+nval (m.take (j+1))):=by
    obtain ⟨i1,i2,i3⟩:=hI.out
    rw [hy] at hd2
    have s:=zdu hd1 hd2 hbw
    refine ⟨by simpa using i1,qM i2 s.2.1,?_⟩
    rw [zA l,zA m,qe _ _ _ (by omega),hy]
    exact zeR (Nat.pow_succ ..) s.1 i3
   have hb1:=(zdu hd1 (by rw [← hy];exact hd2:y<4294967296) hbw).2.2
   have hO2:=hO.set j (adD (dg l j) y bw)
   clear hO hI
   by_cases hlt2:j<n2
   ·obtain ⟨ad2,rfl,hb2,hc2⟩:=(H2.out.below (hBw.mono hB)).at_ (k:=j) hlt2
    rw [hy] at hc2 hd2
    clear hy
    go_wp2_with (go_at_call 149;refine (zcr (dg l j) y bw _ hd1 hd2 hbw).mono ?_;rintro e w' ⟨rfl,rfl⟩)
    go_roundw
    case rel=>exact ⟨j+1,_,_,by omega,hb1,by go_num,rfl,hO2,hN,by go_grown⟩
    case measure=>simp [intOf];omega
   ·obtain rfl:0=y:=by rw [← hy];exact (zdA (by have:=HL2.out;omega)).symm
    clear hy hd2
    go_wp2_with (go_at_call 149;refine (zcr (dg l j) 0 bw _ hd1 (by omega) hbw).mono ?_;rintro e w' ⟨rfl,rfl⟩)
    go_roundw
    case rel=>exact ⟨j+1,_,_,by omega,hb1,by go_num,rfl,hO2,hN,by go_grown⟩
    case measure=>simp [intOf];omega
  ·have hjn:j=n:=by omega
   have hO2:=hO.set n bw
   have hv:Hid (nval (o.set n bw)=nval l+nval m):=by
    obtain ⟨i1,i2,i3⟩:=hI.out
    have h1:=HL.out
    have h2:=HL2.out
    rw [List.take_of_length_le (l:=l) (by omega),List.take_of_length_le (l:=m) (by omega)] at i3
    unfold Hid
    rw [← i3,← List.take_of_length_le (l:=o.set n bw) (i:=n+1) (by simp;omega),qe _ _ _ (by omega),hjn]
   have hsl:Sl (wr.setCell ⟨w.heap.size,n,none⟩ (.int .u32 bw)) (w.heap.size+1) (some ⟨w.heap.size,0,none⟩) (n+1) (n+1) (o.set n bw):=by
    obtain ⟨i1,i2,i3⟩:=hI.out
    have:=hO2.sl (qM i2 (by omega)) (B:=w.heap.size+1) (by omega) (by simp;omega)
    rw [List.length_set,i1] at this
    exact this
   have hcg:=hO.cell (k:=n) (by rw [hI.out.1];omega)
   have hfg:=hO.frozen n
   have hz:=hO.lt
   clear hjn hO hI hO2
   go_wp2_with (go_at_call 119;refine (zhr hsl hv.out).mono ?_;rintro e w' ⟨n',rfl,hs',rfl⟩)
   go_ret
   exact ⟨_,_,_,rfl,hs'.more (by simp;omega),by go_grown⟩
theorem zrw {A A2:Option Addr} {n c n2 c2 B:Nat} {l m:List Nat} {w:World} (h:Sl w B A n c l) (h2:Sl w B A2 n2 c2 m) (hB:B≤w.heap.size) (hn:n≤1000) (hn2:n2≤1000) :
  Calls Tryz.prog 139 #[.slice A n c,.slice A2 n2 c2] w (RetD (nval l+nval m) w):=by
 rcases Nat.lt_or_ge n n2 with hs | hs
 ·rw [Nat.add_comm];exact zt1 A2 A n2 c2 n c B m l w h2 h hB hn2 hs
 ·exact zt0 A A2 n c n2 c2 B l m w h h2 hB hn hs
end Go.Proofs.YtjcegdldgjphiaaGreatDoor
namespace Go.Proofs.YtjcegdldgjphiaaGreatDoor
open Go.RowKit
theorem zdc (o:List Nat) (p d:Nat) (h:p<o.length):nval (o.set p d)+4294967296 ^ p*dg o p=nval o+4294967296 ^ p*d:=by
 induction o generalizing p with
 | nil=>simp at h
 | cons x o ih =>
  cases p with
  | zero=>simp [nval,dg];omega
  | succ p =>
   have:=ih p (by simpa using h)
   have e:dg (x::o) (p+1)=dg o p:=by simp [dg]
   rw [List.set_cons_succ,nval,nval,e,Nat.pow_succ]
   have h2:4294967296*(nval (o.set p d)+4294967296 ^ p*dg o p)=4294967296*(nval o+4294967296 ^ p*d):=by rw [this]
   simp only [Nat.mul_add,← Nat.mul_assoc] at h2
   rw [Nat.mul_comm (4294967296 ^ p) 4294967296]
   omega
theorem za1 {o:List Nat} {p q d:Nat} (h:p≠q):dg (o.set p d) q=dg o q:=by
 unfold dg;simp [List.getD_eq_getElem?_getD,List.getElem?_set_ne h]
def mcD (cy d x y:Nat):Nat:=(cy+(d+x*y))%4294967296
def mcC (cy d x y:Nat):Nat:=(cy+(d+x*y)) / 4294967296
theorem zda {x y:Nat} (hx:x<4294967296) (hy:y<4294967296):x*y≤18446744065119617025:=by
 have:=Nat.mul_le_mul (show x≤4294967295 by omega) (show y≤4294967295 by omega)
 omega
theorem zoT {cy d x y:Nat} (h1:cy<4294967296) (h2:d<4294967296) (hx:x<4294967296) (hy:y<4294967296):mcD cy d x y+4294967296*mcC cy d x y=cy+(d+x*y)∧mcD cy d x y<4294967296∧mcC cy d x y<4294967296:=by
 have:=zda hx hy
 unfold mcD mcC
 omega
theorem zvr {cy d x y:Nat} (h1:cy<4294967296) (h2:d<4294967296) (hx:x<4294967296) (hy:y<4294967296) :
  IntKind.u64.wrap (↑cy+IntKind.u64.wrap (↑d+IntKind.u64.wrap (↑x * ↑y))) / 4294967296=((mcC cy d x y:Nat):Int)∧IntKind.u64.wrap (↑cy+IntKind.u64.wrap (↑d+IntKind.u64.wrap (↑x * ↑y)))%4294967296=((mcD cy d x y:Nat):Int):=by
 have h:=zda hx hy
 have e:(x:Int)*y=((x*y:Nat):Int):=by simp
 rw [e]
 unfold mcD mcC
 generalize x*y=z at *
 rw [IntKind.wrap_u64,IntKind.wrap_u64,IntKind.wrap_u64]
 omega
theorem zgf {V T P P' Q' O' cy cy' d d' x y M:Nat} (hq:Q'=P'*4294967296) (hd:d'+4294967296*cy'=cy+(d+x*y)) (ho:O'+P'*d=V+P'*d') (hp:P'*(x*y)=P*x*M) (h:V+P'*cy=T) :
  O'+Q'*cy'=T+P*x*M:=by
 have:P'*(d'+4294967296*cy')=P'*(cy+(d+x*y)):=by rw [hd]
 simp only [Nat.mul_add,← Nat.mul_assoc] at this hp
 subst hq
 omega
theorem zpR (A A2:Option Addr) (n c n2 c2 B:Nat) (l m:List Nat) (w:World) (h:Sl w B A n c l) (h2:Sl w B A2 n2 c2 m) (hB:B≤w.heap.size) (hn:n≤1000) (hn2:n2≤1000) :
  Calls Tryz.prog 138 #[.slice A n c,.slice A2 n2 c2] w (RetD (nval l*nval m) w):=by
 have HL:=Lib.hid h.len
 have HL2:=Lib.hid h2.len
 have H:=Lib.hid h
 have H2:=Lib.hid h2
 clear h h2
 have hmk:=q7 (n+n2) (by omega)
 have ec:((n+n2:Nat):Int)=(n:Int)+n2:=by omega
 rw [ec] at hmk
 clear ec
 go_enter Tryz.func138,Tryz.ntmps138
 go_wp2
 clear hmk
 go_loopw [19] (fun k wr=>∃(i:Nat) (o:List Nat),i≤n∧k=.int .i64 i∧DBk wr w.heap.size 123 o∧Hid (o.length=n+n2∧Dig o∧nval o=nval (l.take i)*nval m∧∀p,i+n2≤p→dg o p=0)∧Below w.heap.size w wr) (fun k _=>n - (intOf k).toNat)
 case atStart=>exact ⟨0,List.replicate (n+n2) 0,by omega,rfl,DBk.new w _ (n+n2),by unfold Hid;exact ⟨by simp,zap _,by simp [nval,zbz],fun p _=>by unfold dg;simp [List.getD_eq_getElem?_getD,List.getElem?_replicate];split<;>rfl⟩,by go_grown⟩
 case round =>
  obtain ⟨i,o,hi,rfl,hO,hI,hBw⟩:=hrel
  by_cases hlt:i<n
  ·obtain ⟨ad,rfl,hb,hc⟩:=(H.out.below (hBw.mono hB)).at_ (k:=i) hlt
   have hd1:=dg_lt H.out.dig i
   have hz:=hO.lt
   obtain ⟨x,hx⟩:∃x,dg l i=x:=⟨_,rfl⟩
   rw [hx] at hc hd1
   have HX:=Lib.hid hx
   clear hx
   go_wp2
   clear hc
   obtain ⟨wo,hwo⟩:∃wo:World,wo=wr:=⟨_,rfl⟩
   subst hwo
   go_loopw [8,26] (fun b k wr=>∃(j cy:Nat) (o:List Nat),j≤n2∧cy<4294967296∧k=.int .i64 j∧b=.int .u64 cy∧DBk wr w.heap.size 123 o∧Hid (o.length=n+n2∧Dig o∧nval o+4294967296 ^ (i+j)*cy=nval (l.take i)*nval m+4294967296 ^ i*x*nval (m.take j)∧∀p,i+n2≤p→dg o p=0)∧Below w.heap.size w wr) (fun _ k _=>n2 - (intOf k).toNat)
   case atStart=>exact ⟨0,0,o,by omega,by omega,rfl,rfl,hO,by obtain ⟨i1,i2,i3,i4⟩:=hI.out;unfold Hid;exact ⟨i1,i2,by simp [nval,i3],i4⟩,hBw⟩
   case round =>
    obtain ⟨j,cy,o,hj,hcy,rfl,rfl,hO,hI,hBw⟩:=hrel
    by_cases hlt2:j<n2
    ·obtain ⟨ad2,rfl,hb2,hc2⟩:=(H2.out.below (hBw.mono hB)).at_ (k:=j) hlt2
     have hd2:=dg_lt H2.out.dig j
     have hcg:=hO.cell (k:=i+j) (by rw [hI.out.1];omega)
     have hfg:=hO.frozen (i+j)
     have hd3:=dg_lt hI.out.2.1 (i+j)
     have hz2:=hO.lt
     obtain ⟨d,hd⟩:∃d,dg o (i+j)=d:=⟨_,rfl⟩
     obtain ⟨y,hy⟩:∃y,dg m j=y:=⟨_,rfl⟩
     rw [hd] at hcg hd3
     rw [hy] at hc2 hd2
     have hs:=zoT hcy hd3 hd1 hd2
     have hN:Hid ((o.set (i+j) (mcD cy d x y)).length=n+n2∧Dig (o.set (i+j) (mcD cy d x y))∧nval (o.set (i+j) (mcD cy d x y))+4294967296 ^ (i+(j+1))*mcC cy d x y=nval (l.take i)*nval m+4294967296 ^ i*x*nval (m.take (j+1))∧∀p,i+n2≤p→dg (o.set (i+j) (mcD cy d x y)) p=0):=by
      obtain ⟨i1,i2,i3,i4⟩:=hI.out
      refine ⟨by simpa using i1,qM i2 hs.2.1,?_,fun p hp=>by rw [za1 (by omega)];exact i4 p hp⟩
      have hset:=zdc o (i+j) (mcD cy d x y) (by omega)
      rw [hd] at hset
      rw [zA m,hy,Nat.mul_add (4294967296 ^ i*x),← Nat.add_assoc (nval (l.take i)*nval m)]
      refine zgf (P:=4294967296 ^ i) (Nat.pow_succ (n:=4294967296) (m:=i+j)) hs.1 hset ?_ i3
      rw [Nat.pow_add,Nat.mul_assoc (4294967296 ^ i) (4294967296 ^ j),Nat.mul_assoc (4294967296 ^ i) x,Nat.mul_left_comm (4294967296 ^ j) x y]
     have hO2:=hO.set (i+j) (mcD cy d x y)
     have E:=Lib.hid (zvr hcy hd3 hd1 hd2)
     have hcy2:=hs.2.2
     clear hO hI hd hy hs
     go_wp2
     rw [E.out.1,E.out.2]
     clear E
     go_roundw
     case rel=>exact ⟨j+1,_,_,by omega,hcy2,by go_num,rfl,hO2,hN,by go_grown⟩
     case measure=>simp [intOf];omega
    ·have hjn:j=n2:=by omega
     have hz2:=hO.lt
     have hN:Hid ((o.set (i+n2) cy).length=n+n2∧Dig (o.set (i+n2) cy)∧nval (o.set (i+n2) cy)=nval (l.take (i+1))*nval m∧∀p,(i+1)+n2≤p→dg (o.set (i+n2) cy) p=0):=by
      obtain ⟨i1,i2,i3,i4⟩:=hI.out
      refine ⟨by simpa using i1,qM i2 hcy,?_,fun p hp=>by rw [za1 (by omega)];exact i4 p (by omega)⟩
      have hset:=zdc o (i+n2) cy (by omega)
      rw [i4 _ (Nat.le_refl _),Nat.mul_zero,Nat.add_zero] at hset
      rw [hset,zA l,HX.out,Nat.add_mul,← hjn,i3]
      rw [List.take_of_length_le (l:=m) (by have:=HL2.out;omega)]
     have hO2:=hO.set (i+n2) cy
     have hcg:=hO.cell (k:=i+n2) (by rw [hI.out.1];omega)
     have hfg:=hO.frozen (i+n2)
     have ecy:IntKind.u64.wrap (cy:Int)=cy:=by rw [IntKind.wrap_u64];omega
     have ecy2:(cy:Int)%4294967296=cy:=by omega
     clear hO hI hjn
     go_wp2
     go_roundw
     case rel=>exact ⟨i+1,_,by omega,by go_num,hO2,hN,by go_grown⟩
     case measure=>simp [intOf];omega
  ·have hin:i=n:=by omega
   have hv:Hid (nval o=nval l*nval m):=by
    obtain ⟨i1,i2,i3,i4⟩:=hI.out
    rw [List.take_of_length_le (l:=l) (by have:=HL.out;omega)] at i3
    exact i3
   have hsl:Sl wr (w.heap.size+1) (some ⟨w.heap.size,0,none⟩) (n+n2) (n+n2) o:=by
    obtain ⟨i1,i2,i3,i4⟩:=hI.out
    have:=hO.sl i2 (B:=w.heap.size+1) (by omega) (by omega)
    rwa [i1] at this
   have hz:=hO.lt
   clear hin hO hI
   go_wp2_with (go_at_call 119;refine (zhr hsl hv.out).mono ?_;rintro e w' ⟨n',rfl,hs',rfl⟩)
   go_ret
   exact ⟨_,_,_,rfl,hs'.more (by omega),hBw⟩
end Go.Proofs.YtjcegdldgjphiaaGreatDoor
