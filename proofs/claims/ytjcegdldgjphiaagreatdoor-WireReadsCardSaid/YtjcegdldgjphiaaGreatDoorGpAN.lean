/-
  Merged: NumRefY, RatMath, RatZ, RatMem, RatR, SymN, SymR, SymM, RatF, SymS, SymU, SymV, SymW, RtX.
-/
import Derived.Test.YtjcegdldgjphiaaGreatDoorGpAM
import Derived.Test.YtjcegdldgjphiaaGreatDoorGpAK
import Derived.Test.YtjcegdldgjphiaaGreatDoorGpAB
set_option linter.unusedSimpArgs false
set_option linter.unusedVariables false
set_option maxRecDepth 100000
set_option maxHeartbeats 4000000
namespace Go.Proofs.YtjcegdldgjphiaaGreatDoor
open Go.RowKit Go.Shelf
theorem zlz {v k:Nat} (h:v<4294967296 ^ k):(digs v).length≤k:=by
 rcases Nat.lt_or_ge k (digs v).length with h1 | h1
 ·have hne:digs v≠[]:=fun e=>by rw [e] at h1;simp at h1
  have h2:=zbL (zL v) hne
  rw [zn] at h2
  have h3:4294967296 ^ k≤4294967296 ^ ((digs v).length - 1):=Nat.pow_le_pow_right (by omega) (by omega)
  omega
 ·exact h1
theorem zel {l:List Nat} {n:Nat} (hl:Dig l) (hn:l.length=n):blen (nval l)≤32*n:=by
 have h:=qH hl
 rw [hn,p32] at h
 exact zn7 h
theorem zhU {l:List Nat} {n:Nat} (hl:Dig l) (hn:l.length=n) (h2:n≤2):nval l<18446744073709551616:=by
 have h:=qH hl
 rw [hn] at h
 have:4294967296 ^ n≤4294967296 ^ 2:=Nat.pow_le_pow_right (by omega) h2
 omega
theorem Sl.apart {w:World} {B n c g k:Nat} {A:Option Addr} {l:List Nat} (h:Sl w B A n c l) (hA:∀ad,A=some ad→ad.block≠g) (u:Value):Sl (w.setCell ⟨g,k,none⟩ u) B A n c l:=by
 refine ⟨⟨⟨h.1.1.1,fun hn=>?_⟩,h.1.2⟩,h.2⟩
 obtain ⟨ad,e,hb,hc⟩:=h.1.1.2 hn
 refine ⟨ad,e,hb,fun j v hv=>?_⟩
 have hne:=hA ad e
 rw [World.cell?_setCell_other]
 ·exact hc j v hv
 ·intro e2
  apply hne
  have h3:=congrArg Addr.block e2
  rw [zaI] at h3
  exact h3.symm
theorem zh7 {A A2:Option Addr} {n n2 c c2 B:Nat} {l m:List Nat} {w:World} (h:Sl w B A n c l) (h2:Sl w B A2 n2 c2 m) (hB:B≤w.heap.size) (hn:n≤2) (hn2:n2≤2) (h0:nval m≠0) :
  Calls Tryz.prog 106 #[.slice A n c,.slice A2 n2 c2] w (RetQR (nval l / nval m) (nval l%nval m) w):=by
 have hv:=zhU h.dig h.len hn
 have hv2:=zhU h2.dig h2.len hn2
 have WA:=Lib.hid (fun (W:World) (hW:Below w.heap.size w W)=>zeT ((h.more hB).below hW) hn)
 have WB:=Lib.hid (fun (W:World) (hW:Below w.heap.size w W)=>zeT ((h2.more hB).below hW) hn2)
 obtain ⟨x,hx⟩:∃x,nval l=x:=⟨_,rfl⟩
 obtain ⟨y,hy⟩:∃y,nval m=y:=⟨_,rfl⟩
 rw [hx] at hv WA ⊢
 rw [hy] at hv2 h0 WB ⊢
 obtain ⟨q,hq⟩:∃q,x / y=q:=⟨_,rfl⟩
 obtain ⟨r,hr⟩:∃r,x%y=r:=⟨_,rfl⟩
 have e1:(x:Int) / (y:Int)=(q:Int):=by rw [← hq];rfl
 have e2:(x:Int)%(y:Int)=(r:Int):=by rw [← hr];rfl
 have hql:q<18446744073709551616:=by rw [← hq];exact Nat.lt_of_le_of_lt (Nat.div_le_self _ _) hv
 have hrl:r<18446744073709551616:=by rw [← hr];exact Nat.lt_of_le_of_lt (Nat.mod_le _ _) hv
 have hyn:(y:Int)≠0:=by omega
 have hbb:=Below.refl w.heap.size w
 have hn':(n:Int)≤2:=by omega
 have hn2':(n2:Int)≤2:=by omega
 rw [hq,hr]
 clear h h2 hx hy hq hr h0 hn hn2
 have tk1:Hid True:=trivial
 go_enter Tryz.func106,Tryz.ntmps106
 go_wp2_with (first
  | (go_at_call 129;(with_reducible refine (WA.out _ hbb).mono ?_);rintro e w1 ⟨rfl,rfl⟩)
  | (go_at_call 129;(with_reducible refine (WB.out _ hbb).mono ?_);rintro e w1 ⟨rfl,rfl⟩)
  | (clear tk1;go_at_call 91;go_loud ((with_reducible refine (zbU q _ hql).mono ?_);rintro e w3 ⟨A3,n3,c3,rfl,hs3,hb⟩;replace hbb:=hbb.trans (hb.mono hbb.size);clear hb))
  | (go_at_call 91;go_loud ((with_reducible refine (zbU r _ hrl).mono ?_);rintro e w4 ⟨A4,n4,c4,rfl,hs4,hb⟩;replace hs3:=hs3.via hb;replace hbb:=hbb.trans (hb.mono hbb.size);clear hb))
  | fail "no arm")
 go_ret2
 exact ⟨_,_,_,_,_,_,rfl,hs3,hs4,hbb⟩
theorem zj3 {A A2:Option Addr} {n n2 c c2 B:Nat} {l m:List Nat} {w:World} (h:Sl w B A n c l) (h2:Sl w B A2 n2 c2 m) (hB:B≤w.heap.size) (hl:Canon l) (hm:Canon m) (hn:n≤64) (hn2:n2≤64) (hbig:¬ (n≤2∧n2≤2)) (hlt:blen (nval l)<blen (nval m)) :
  Calls Tryz.prog 106 #[.slice A n c,.slice A2 n2 c2] w (RetQR (nval l / nval m) (nval l%nval m) w):=by
 have hvl:=zmo hlt
 rw [Nat.div_eq_of_lt hvl,Nat.mod_eq_of_lt hvl]
 have LA:=Lib.hid (zcy h hl (by omega))
 have LB:=Lib.hid (zcy h2 hm (by omega))
 have hb1:=zel h.dig h.len
 have hb2:=zel h2.dig h2.len
 have hs:=Lib.hid (show Sl w w.heap.size A n c (digs (nval l)) by rw [← zbm hl];exact h.more hB)
 obtain ⟨x,hx⟩:∃x,blen (nval l)=x:=⟨_,rfl⟩
 obtain ⟨y,hy⟩:∃y,blen (nval m)=y:=⟨_,rfl⟩
 rw [hx] at LA hlt hb1
 rw [hy] at LB hlt hb2
 have hlt':(x:Int) - y<0:=by omega
 have hxx:x≤3000:=by omega
 have hyy:y≤3000:=by omega
 clear h h2 hx hy hl hm hlt hb1 hb2 hvl
 rcases (show (2:Int)<n∨((n:Int)≤2∧(2:Int)<n2) by omega) with hc | ⟨hc,hc2⟩
 all_goals
  go_enter Tryz.func106,Tryz.ntmps106
  go_wp2_with (first
   | (go_at_call 130;(with_reducible refine LA.out.mono ?_);rintro e w1 ⟨rfl,rfl⟩)
   | (go_at_call 130;(with_reducible refine LB.out.mono ?_);rintro e w1 ⟨rfl,rfl⟩)
   | fail "no arm")
  go_ret2
  exact ⟨_,_,_,_,_,_,rfl,(by rw [zx];exact Sl.none_),hs.out,Below.refl _ _⟩
def DvI (W:World) (g V D j n1:Nat) (A3:Option Addr) (n3 c3:Nat) (o:List Nat):Prop:=
 DBk W g 123 o∧Sl W W.heap.size A3 n3 c3 (digs (V / 2 ^ j%D))∧(∀ad,A3=some ad→ad.block≠g)∧o.length=n1∧Dig o∧nval o=V / 2 ^ j / D*2 ^ j
theorem zj4 {A A2:Option Addr} {n n2 c c2 B:Nat} {l m:List Nat} {w:World} (h:Sl w B A n c l) (h2:Sl w B A2 n2 c2 m) (hB:B≤w.heap.size) (hl:Canon l) (hm:Canon m) (hn:n≤64) (hn2:n2≤64) (h0:nval m≠0) (hbig:¬ (n≤2∧n2≤2)) (hge:blen (nval m)≤blen (nval l)) :
  Calls Tryz.prog 106 #[.slice A n c,.slice A2 n2 c2] w (RetQR (nval l / nval m) (nval l%nval m) w):=by
 have LA:=Lib.hid (zcy h hl (by omega))
 have LB:=Lib.hid (zcy h2 hm (by omega))
 have hb1:=zel h.dig h.len
 have hb2:=zel h2.dig h2.len
 obtain ⟨f,hf⟩:∃f,blen (nval l) - blen (nval m)=f:=⟨_,rfl⟩
 have hst:=Lib.hid (zrX (V:=nval l) (W:=nval m) (f:=f) h0 (by omega))
 have hbm:0<blen (nval m):=by rw [zbI h0];omega
 have HN:=Lib.hid (show f<32*n by omega)
 have H:=Lib.hid (h.more hB)
 have H2:=Lib.hid (h2.more hB)
 have HM:=Lib.hid hm
 have HV:=Lib.hid (show nval m<4294967296 ^ 64 from (qg hm).1 (by rw [h2.len];exact hn2))
 have WI:=Lib.hid (fun (W:World) (hW:Below w.heap.size w W) (f:Nat) (hf:f≤100000)=>zli f ((h.more hB).below hW) hW.size (by omega) hf)
 have BT:=Lib.hid (fun (W:World) (hW:Below w.heap.size w W) (k:Nat) (hk:k / 32<n)=>zth k ((h.more hB).below hW) hk)
 obtain ⟨V,hV⟩:∃V,nval l=V:=⟨_,rfl⟩
 obtain ⟨D,hD⟩:∃D,nval m=D:=⟨_,rfl⟩
 rw [hV] at WI BT hst
 rw [hD] at hst HV h0
 have HD:=Lib.hid hD
 have hD0:Hid (D≠0):=Lib.hid h0
 rw [hV,hD]
 rw [hV] at LA
 rw [hD] at LB
 rw [hV,hD] at hf hge
 obtain ⟨x,hx⟩:∃x,blen V=x:=⟨_,rfl⟩
 obtain ⟨y,hy⟩:∃y,blen D=y:=⟨_,rfl⟩
 rw [hV,hx] at hb1
 rw [hD,hy] at hb2
 rw [hx] at LA hf hge
 rw [hy] at LB hf hge
 have e1:(x:Int) - y=(f:Int):=by omega
 have hxx:x≤3000:=by omega
 have hyy:y≤3000:=by omega
 have hff:f≤3000:=by omega
 obtain ⟨k0,hk0⟩:∃k0,f / 32=k0:=⟨_,rfl⟩
 obtain ⟨n1,hn1⟩:∃n1,k0+1=n1:=⟨_,rfl⟩
 obtain ⟨f1,hf1⟩:∃f1,f+1=f1:=⟨_,rfl⟩
 have e2:(f:Int) / 32=(k0:Int):=by omega
 have e3:(k0:Int)+1=(n1:Int):=by omega
 have e4:(f:Int)+1=(f1:Int):=by omega
 have HK:=Lib.hid (show ∀j,j≤f→j / 32<n1 by intro j hj;omega)
 have hkl:k0≤1000:=by omega
 have hfl:f1≤100000:=by omega
 have hnl:n1≤1000:=by omega
 have hmk:=zec n1 (by omega)
 rw [hf1] at hst
 have hf1':=Lib.hid hf1
 clear h h2 hV hD hx hy hl hm hb1 hb2 hbm h0 hf hge hk0 hn1 hf1
 rcases (show (2:Int)<n∨((n:Int)≤2∧(2:Int)<n2) by omega) with hc | ⟨hc,hc2⟩
 all_goals
  go_enter Tryz.func106,Tryz.ntmps106
  go_upto_region 7 with (first
   | (go_at_call 130;(with_reducible refine LA.out.mono ?_);rintro e w1 ⟨rfl,rfl⟩)
   | (go_at_call 130;(with_reducible refine LB.out.mono ?_);rintro e w1 ⟨rfl,rfl⟩)
   | fail "no arm")
  have d0:=DBk.new w 123 n1
  have hBW:Below w.heap.size w (w.alloc (.cells (madeCells #[.int .u32 0] n1) 123)):=(Below.refl _ _).alloc (Nat.le_refl _) _
  have hz1:(w.alloc (.cells (madeCells #[.int .u32 0] n1) 123)).heap.size=w.heap.size+1:=by simp
  obtain ⟨W1,hW1⟩:∃W1,w.alloc (.cells (madeCells #[.int .u32 0] n1) 123)=W1:=⟨_,rfl⟩
  rw [hW1] at d0 hBW hz1 ⊢
  clear hmk hW1
  go_wp2_with (first
   | (go_at_call 131;go_loud ((with_reducible refine (WI.out _ hBW f1 hfl).mono ?_);rintro e w2 ⟨A3,n3,c3,rfl,hs3,hb,hfr⟩;have hBB:=hBW.trans (hb.mono hBW.size);replace d0:=d0.below hb (by omega)))
   | fail "no arm")
  go_loopw [8,9] (fun x y W=>∃(j:Nat) (z:Int) (A3:Option Addr) (n3 c3:Nat) (o:List Nat),j≤f1∧x=.slice A3 n3 c3∧y=.int .i64 z∧z=(j:Int) - 1∧Below w.heap.size w W∧Hid (DvI W w.heap.size V D j n1 A3 n3 c3 o)) (fun _ y _=>(intOf y+1).toNat)
  case atStart =>
   exact ⟨f1,_,A3,n3,c3,List.replicate n1 0,by omega,rfl,rfl,by omega,hBB,Lib.hid ⟨d0,by rw [Nat.mod_eq_of_lt hst.out];exact hs3,fun ad e=>by have:=hfr ad e;omega,by simp,zap n1,by rw [zbz,Nat.div_eq_of_lt hst.out,Nat.zero_mul]⟩⟩
  case round =>
   clear hs3 hb hfr hBB d0 hBW hz1
   obtain ⟨j,z,A3,n3,c3,o,hj,rfl,rfl,hz,hBB,hI⟩:=hrel
   cases j with
   | zero =>
    obtain rfl:z=-1:=by omega
    clear hz
    have hq:=Lib.hid (show nval o=V / D by have:=hI.out.2.2.2.2.2;simpa using this)
    have hsq:Sl wr wr.heap.size (some ⟨w.heap.size,0,none⟩) n1 n1 o:=by
     have:=hI.out.1.sl hI.out.2.2.2.2.1 hI.out.1.lt (by rw [hI.out.2.2.2.1];omega)
     rwa [hI.out.2.2.2.1] at this
    have hs3:=hI.out.2.1
    rw [Nat.pow_zero,Nat.div_one] at hs3
    clear hI
    go_wp2_with (first
     | (go_at_call 107;(with_reducible refine (zah (v:=V / D) hsq hq.out).mono ?_);rintro e w2 ⟨n',rfl,hs5,rfl⟩)
     | fail "no arm")
    go_ret2
    exact ⟨_,_,_,_,_,_,rfl,hs5,hs3,hBB⟩
   | succ j =>
    obtain rfl:z=(j:Int):=by omega
    clear hz
    have hjf:j≤f:=by have:=hf1'.out;omega
    have hk:j / 32<n:=by have:=HN.out;omega
    obtain ⟨i1,i2,i3,i4,i5,i6⟩:=hI.out
    have hdb:=ztx (V:=V) (k:=j)
    obtain ⟨b0,hb0⟩:∃b0,V / 2 ^ j%2=b0:=⟨_,rfl⟩
    have hb01:b0≤1:=by omega
    have QS:=zrA (A:=V / 2 ^ (j+1)) (W:=D) hb01 (by have:=hD0.out;omega)
    rw [hb0] at hdb
    rw [← hdb] at QS
    obtain ⟨R,hR⟩:∃R,V / 2 ^ (j+1)%D=R:=⟨_,rfl⟩
    obtain ⟨Q,hQ⟩:∃Q,V / 2 ^ (j+1) / D=Q:=⟨_,rfl⟩
    have hRD:R<D:=by rw [← hR];exact Nat.mod_lt _ (by have:=hD0.out;omega)
    rw [hR] at i2 QS
    rw [hQ] at i6 QS
    have hn3:n3≤64:=by
     have:=zlz (Nat.lt_trans hRD HV.out)
     rwa [i2.len] at this
    obtain ⟨r2,hr2⟩:∃r2,2*R+b0=r2:=⟨_,rfl⟩
    rw [hr2] at QS
    have hr2f:r2<4294967296 ^ 65:=by
     have:=HV.out
     have h65:(4294967296:Nat) ^ 65=4294967296 ^ 64*4294967296:=Nat.pow_succ ..
     omega
    have BI:=Lib.hid (BT.out _ hBB j hk)
    rw [hb0] at BI
    have TW:=Lib.hid (zpT b0 i2 (Nat.le_refl _) (by omega) hb01)
    rw [zn,hr2] at TW
    have CP:=Lib.hid (fun (W:World) (hW:Below w.heap.size w W) (A4:Option Addr) (n4 c4:Nat) (h:Sl W W.heap.size A4 n4 c4 (digs r2))=>zad h ((H2.out.below hW).more hW.size) (Nat.le_refl _) (zL r2) HM.out)
    rw [zn,HD.out] at CP
    have hgz:w.heap.size<wr.heap.size:=i1.lt
    rcases Nat.lt_or_ge r2 D with hlt | hge
    ·obtain ⟨q1,q2⟩:=QS.2 hlt
     rw [zaZ hlt] at CP
     have hN:=Lib.hid (And.intro q2 (show V / 2 ^ j / D*2 ^ j=nval o by rw [q1,i6,Nat.pow_succ];rw [Nat.mul_comm 2 Q,Nat.mul_assoc,Nat.mul_comm 2 (2 ^ j)]))
     clear QS hdb hb0 hR hQ hRD hr2 hr2f q1 q2 i6 hlt i2 hI hk
     go_wp2_with (first
      | (go_at_call 133;(with_reducible refine BI.out.mono ?_);rintro e w1 ⟨rfl,rfl⟩)
      | (go_at_call 132;(with_reducible refine TW.out.mono ?_);rintro e w2 ⟨A4,n4,c4,rfl,hs4,hb,hfr⟩;replace hBB:=hBB.trans (hb.mono hBB.size);replace i1:=i1.below hb hgz)
      | (go_at_call 105;(with_reducible refine (CP.out _ hBB _ _ _ hs4).mono ?_);rintro e w3 ⟨rfl,hb3⟩;replace hBB:=hBB.trans (hb3.mono hBB.size);replace i1:=i1.below hb3 i1.lt;replace hs4:=hs4.via hb3)
      | fail "no arm")
     refine ⟨⟨j,_,A4,n4,c4,o,by omega,rfl,rfl,rfl,hBB,Lib.hid ⟨i1,by rw [hN.out.1];exact hs4,fun ad e=>by have:=hfr ad e;omega,i4,i5,hN.out.2.symm⟩⟩,?_⟩
     simp [intOf]
    ·obtain ⟨q1,q2⟩:=QS.1 hge
     have MI:=Lib.hid (fun (W:World) (hW:Below w.heap.size w W) (A4:Option Addr) (n4 c4:Nat) (h:Sl W W.heap.size A4 n4 c4 (digs r2))=>zf7 A4 A2 n4 c4 n2 c2 W.heap.size (digs r2) m W h ((H2.out.below hW).more hW.size) (Nat.le_refl _) (by rw [← h.len];have:=zlz hr2f;omega) (by rw [← h.len,← H2.out.len];exact zaJ HM.out (zL r2).1 (by rw [HD.out,zn];exact hge)) (by rw [HD.out,zn];exact hge))
     rw [zn,HD.out] at MI
     have hc3:=zgw hge
     obtain ⟨oo,hoo⟩:∃oo,cmpv r2 D=oo:=⟨_,rfl⟩
     rw [hoo] at CP hc3
     obtain ⟨k,hkk⟩:∃k,j / 32=k:=⟨_,rfl⟩
     obtain ⟨r,hrr⟩:∃r,j%32=r:=⟨_,rfl⟩
     have hkn:=HK.out j hjf
     have hlow:=zve i5 i6
     have hx4:=dg_lt i5 k
     rw [hkk,hrr] at hlow
     rw [hkk] at hkn
     have hcg:=fun (W:World) (h:DBk W w.heap.size 123 o)=>h.cell (k:=k) (by rw [i4];exact hkn)
     have HNV:=Lib.hid (zdc o k)
     obtain ⟨x0,hx0⟩:∃x0,dg o k=x0:=⟨_,rfl⟩
     rw [hx0] at hlow hx4 hcg HNV
     obtain ⟨p,hp⟩:∃p,2 ^ r=p:=⟨_,rfl⟩
     obtain ⟨y0,hy0⟩:∃y0,x0+p=y0:=⟨_,rfl⟩
     have hyl:y0<4294967296:=by
      have:=zrn (k:=j) hx4 (by rw [hrr];exact hlow)
      rw [hrr,hp] at this
      omega
     have eo:bits .or .u32 (x0:Int) (p:Int)=(y0:Int):=by
      rw [bor32 x0 p hx4 (by omega),← hp,zvC hlow,hp,hy0]
     have ek:(j:Int) / 32=(k:Int):=by omega
     have er:(j:Int)%32=(r:Int):=by omega
     have ep:(2:Int) ^ r=(p:Int):=by rw [← hp];simp
     have hpl:p<4294967296:=by omega
     have hr32:r<32:=by omega
     have hkn1:(k:Int)<n1:=by omega
     have hP:=zpk j
     rw [hkk,hrr,hp] at hP
     have hN:=Lib.hid (And.intro q2 (show nval (o.set k y0)=V / 2 ^ j / D*2 ^ j by
      have h9:=HNV.out y0 (by rw [i4];exact hkn)
      rw [← hy0,Nat.mul_add,hP] at h9
      rw [← hy0,q1,Nat.add_mul,Nat.one_mul,Nat.mul_comm 2 Q,Nat.mul_assoc,← Nat.pow_succ',← i6]
      omega))
     have hset:=Lib.hid (qM (k:=k) i5 hyl)
     clear QS hdb hb0 hR hQ hRD hr2 hr2f q1 q2 i6 hge i2 hI hk hoo hkk hrr hlow hx0 hp hy0 hP HNV
     go_upto_region 14 with (first
      | (go_at_call 133;(with_reducible refine BI.out.mono ?_);rintro e w1 ⟨rfl,rfl⟩)
      | (go_at_call 132;(with_reducible refine TW.out.mono ?_);rintro e w2 ⟨A4,n4,c4,rfl,hs4,hb,hfr⟩;replace hBB:=hBB.trans (hb.mono hBB.size);replace i1:=i1.below hb hgz)
      | (go_at_call 105;(with_reducible refine (CP.out _ hBB _ _ _ hs4).mono ?_);rintro e w3 ⟨rfl,hb3⟩;replace hBB:=hBB.trans (hb3.mono hBB.size);replace i1:=i1.below hb3 i1.lt;replace hs4:=hs4.via hb3;replace hgz:=i1.lt)
      | (go_at_call 134;go_loud ((with_reducible refine (MI.out _ hBB _ _ _ hs4).mono ?_);rintro e w4 ⟨A5,n5,c5,rfl,hs5,hb4,hfr5⟩;replace hBB:=hBB.trans (hb4.mono hBB.size);replace i1:=i1.below hb4 i1.lt))
      | fail "no arm")
     have hc4:=hcg _ i1
     have hfz:=i1.frozen k
     have hlt4:=i1.lt
     have hnxt:Hid (Below w.heap.size w ((w4.setCell ⟨w.heap.size,k,none⟩ (.int .u32 (y0:Nat))).drew)∧DvI ((w4.setCell ⟨w.heap.size,k,none⟩ (.int .u32 (y0:Nat))).drew) w.heap.size V D j n1 A5 n5 c5 (o.set k y0)):=by
      have hd5:=i1.set k y0
      have hs6:=hs5.apart (g:=w.heap.size) (k:=k) (fun ad e=>by have:=hfr5 ad e;omega) (.int .u32 (y0:Nat))
      refine ⟨(hBB.setCell (p:=⟨w.heap.size,k,none⟩) (Nat.le_refl _) _).drew,hd5.below (Below.drew (Below.refl _ _)) hd5.lt,?_,?_,by simpa using i4,hset.out,hN.out.2⟩
      ·rw [hN.out.1]
       exact (hs6.below (Below.drew (Below.refl _ _))).more (by simp [World.setCell,World.drew])
      ·intro ad e
       have:=hfr5 ad e
       omega
     go_region
     all_goals
      go_wp2_with fail
      refine ⟨⟨j,_,A5,n5,c5,o.set k y0,by omega,rfl,rfl,rfl,hnxt.out.1,Lib.hid hnxt.out.2⟩,?_⟩
      simp [intOf]
theorem zdC {A A2:Option Addr} {n n2 c c2 B:Nat} {l m:List Nat} {w:World} (h:Sl w B A n c l) (h2:Sl w B A2 n2 c2 m) (hB:B≤w.heap.size) (hl:Canon l) (hm:Canon m) (hn:n≤64) (hn2:n2≤64) (h0:nval m≠0) :
  Calls Tryz.prog 106 #[.slice A n c,.slice A2 n2 c2] w (RetQR (nval l / nval m) (nval l%nval m) w):=by
 by_cases hb:n≤2∧n2≤2
 ·exact zh7 h h2 hB hb.1 hb.2 h0
 ·rcases Nat.lt_or_ge (blen (nval l)) (blen (nval m)) with hlt | hge
  ·exact zj3 h h2 hB hl hm hn hn2 hb hlt
  ·exact zj4 h h2 hB hl hm hn hn2 h0 hb hge
theorem zp2 {m:List Nat} {n2:Nat} (hm:Canon m) (hl:m.length=n2) (k0:0<n2):nval m≠0:=fun h0=>by
 have:=qD hm h0
 rw [this] at hl
 simp at hl
 omega
theorem zmY (neg neg2:Bool) {A A2:Option Addr} {n n2 c c2 B:Nat} {l:List Nat} {w:World} (h:Sl w B A n c l) (hB:B≤w.heap.size) (h1:zw neg l=false) :
  Calls Tryz.prog 143 #[.agg #[.bool neg,.slice A n c],.agg #[.bool neg2,.slice A2 n2 c2]] w (zfJ none w):=by
 have R1:=Lib.hid (zz neg (h.more hB) false h1)
 have s0:=Sd.start (w:=w) (neg:=neg) (A:=A) (n:=n) (c:=c) (neg2:=neg2) (A2:=A2) (n2:=n2) (c2:=c2)
 clear h h1
 go_enter Tryz.func143,Tryz.ntmps143
 go_wp2_with (go_at_call 75;refine (R1.out _ s0.below).mono ?_;rintro e w1 ⟨rfl,hb⟩;have s1:=s0.via hb;obtain ⟨a0,a1,b0,b1,q0,q1,qf,r0,r1,rf,rz⟩:=s1.facts)
 obtain ⟨p0,p1,p2,p3⟩:=zcv (.bool false) (.slice none 0 0) (.bool false) (.slice none 0 0) q0 q1 r0 r1 (by omega)
 refine bodyPost_ret (v:=.tuple #[.agg #[.bool false,.slice none 0 0],.agg #[.bool false,.slice none 0 0],.bool false]) ?_ rfl ⟨_,_,_,_,_,_,rfl,by rw [show digs (dqO none).natAbs=[] from zx];exact Sl.none_,by rw [show digs (drO none).natAbs=[] from zx];exact Sl.none_,?_⟩
 ·simp [results,Tryz.f143,go_sem,p0,p1,p2,p3]
 ·exact (((s1.below.setCell (by simp;omega) _).setCell (by simp;omega) _).setCell (by simp;omega) _).setCell (by simp;omega) _
theorem zmZ (neg neg2:Bool) {A A2:Option Addr} {n n2 c c2 B:Nat} {l m:List Nat} {w:World} (h:Sl w B A n c l) (h2:Sl w B A2 n2 c2 m) (hB:B≤w.heap.size) (h1:zw neg l=true) (k1:zw neg2 m=false) :
  Calls Tryz.prog 143 #[.agg #[.bool neg,.slice A n c],.agg #[.bool neg2,.slice A2 n2 c2]] w (zfJ none w):=by
 have R1:=Lib.hid (zz neg (h.more hB) true h1)
 have R2:=Lib.hid (zz neg2 (h2.more hB) false k1)
 have s0:=Sd.start (w:=w) (neg:=neg) (A:=A) (n:=n) (c:=c) (neg2:=neg2) (A2:=A2) (n2:=n2) (c2:=c2)
 clear h h1 h2 k1
 go_enter Tryz.func143,Tryz.ntmps143
 go_wp2_with (first
  | (go_at_call 75;(with_reducible refine (R1.out _ s0.below).mono ?_);rintro e w1 ⟨rfl,hb⟩;have s1:=s0.via hb;obtain ⟨a0,a1,b0,b1,q0,q1,qf,r0,r1,rf,rz⟩:=s1.facts)
  | (go_at_call 75;(with_reducible refine (R2.out _ s1.below).mono ?_);rintro e w2 ⟨rfl,hb⟩;have s2:=s1.via hb;clear a0 a1 b0 b1 q0 q1 qf r0 r1 rf rz;obtain ⟨a0,a1,b0,b1,q0,q1,qf,r0,r1,rf,rz⟩:=s2.facts)
  | fail "no arm")
 obtain ⟨p0,p1,p2,p3⟩:=zcv (.bool false) (.slice none 0 0) (.bool false) (.slice none 0 0) q0 q1 r0 r1 (by omega)
 refine bodyPost_ret (v:=.tuple #[.agg #[.bool false,.slice none 0 0],.agg #[.bool false,.slice none 0 0],.bool false]) ?_ rfl ⟨_,_,_,_,_,_,rfl,by rw [show digs (dqO none).natAbs=[] from zx];exact Sl.none_,by rw [show digs (drO none).natAbs=[] from zx];exact Sl.none_,?_⟩
 ·simp [results,Tryz.f143,go_sem,p0,p1,p2,p3]
 ·exact (((s2.below.setCell (by simp;omega) _).setCell (by simp;omega) _).setCell (by simp;omega) _).setCell (by simp;omega) _
theorem zm0 (neg neg2:Bool) {A A2:Option Addr} {n n2 c c2 B:Nat} {l m:List Nat} {w:World} (h:Sl w B A n c l) (h2:Sl w B A2 n2 c2 m) (hB:B≤w.heap.size) (h1:zw neg l=true) (k1:zw neg2 m=true) (k0:m=[]) :
  Calls Tryz.prog 143 #[.agg #[.bool neg,.slice A n c],.agg #[.bool neg2,.slice A2 n2 c2]] w (zfJ none w):=by
 have hn0:n2=0:=by rw [← h2.len,k0];rfl
 subst hn0
 have R1:=Lib.hid (zz neg (h.more hB) true h1)
 have R2:=Lib.hid (zz neg2 (h2.more hB) true k1)
 have s0:=Sd.start (w:=w) (neg:=neg) (A:=A) (n:=n) (c:=c) (neg2:=neg2) (A2:=A2) (n2:=0) (c2:=c2)
 clear h h1 h2 k1 k0
 go_enter Tryz.func143,Tryz.ntmps143
 go_wp2_with (first
  | (go_at_call 75;(with_reducible refine (R1.out _ s0.below).mono ?_);rintro e w1 ⟨rfl,hb⟩;have s1:=s0.via hb;obtain ⟨a0,a1,b0,b1,q0,q1,qf,r0,r1,rf,rz⟩:=s1.facts)
  | (go_at_call 75;(with_reducible refine (R2.out _ s1.below).mono ?_);rintro e w2 ⟨rfl,hb⟩;have s2:=s1.via hb;clear a0 a1 b0 b1 q0 q1 qf r0 r1 rf rz;obtain ⟨a0,a1,b0,b1,q0,q1,qf,r0,r1,rf,rz⟩:=s2.facts)
  | fail "no arm")
 obtain ⟨p0,p1,p2,p3⟩:=zcv (.bool false) (.slice none 0 0) (.bool false) (.slice none 0 0) q0 q1 r0 r1 (by omega)
 refine bodyPost_ret (v:=.tuple #[.agg #[.bool false,.slice none 0 0],.agg #[.bool false,.slice none 0 0],.bool false]) ?_ rfl ⟨_,_,_,_,_,_,rfl,by rw [show digs (dqO none).natAbs=[] from zx];exact Sl.none_,by rw [show digs (drO none).natAbs=[] from zx];exact Sl.none_,?_⟩
 ·simp [results,Tryz.f143,go_sem,p0,p1,p2,p3]
 ·exact (((s2.below.setCell (by simp;omega) _).setCell (by simp;omega) _).setCell (by simp;omega) _).setCell (by simp;omega) _
theorem ziy (neg neg2:Bool) {A A2:Option Addr} {n n2 c c2 B:Nat} {l m:List Nat} {w:World} (h:Sl w B A n c l) (h2:Sl w B A2 n2 c2 m) (hB:B≤w.heap.size) (h1:zw neg l=true) (k1:zw neg2 m=true) (k0:0<n2) (hz:neg=false∨nval l%nval m=0) :
  Calls Tryz.prog 143 #[.agg #[.bool neg,.slice A n c],.agg #[.bool neg2,.slice A2 n2 c2]] w (zfJ (some (sgn (!(neg == neg2)) (nval l / nval m),sgn false (nval l%nval m))) w):=by
 have R1:=Lib.hid (zz neg (h.more hB) true h1)
 have R2:=Lib.hid (zz neg2 (h2.more hB) true k1)
 have hl:=zC h1 h.dig
 have hm:=zC k1 h2.dig
 have hn:=hl.2.1
 rw [h.len] at hn
 have hn2:=hm.2.1
 rw [h2.len] at hn2
 have hlb:nval l<big:=(qg hl.1).1 hl.2.1
 have hmb:nval m<big:=(qg hm.1).1 hm.2.1
 have hqb:nval l / nval m<big:=Nat.lt_of_le_of_lt (Nat.div_le_self _ _) hlb
 have hrb:nval l%nval m<big:=Nat.lt_of_le_of_lt (Nat.mod_le _ _) hlb
 have OV:=Lib.hid (fun (W:World) (hW:Below w.heap.size w W)=>show Calls Tryz.prog 106 #[.slice A n c,.slice A2 n2 c2] W (RetQR (nval l / nval m) (nval l%nval m) W) from zdC ((h.more hB).below hW) ((h2.more hB).below hW) hW.size hl.1 hm.1 hn hn2 (zp2 hm.1 h2.len k0))
 have s0:=Sd.start (w:=w) (neg:=neg) (A:=A) (n:=n) (c:=c) (neg2:=neg2) (A2:=A2) (n2:=n2) (c2:=c2)
 have hne:((n2:Int) == 0)=false:=by simp;omega
 have hne2:(n2:Int)≠0:=by omega
 obtain ⟨q,hq⟩:∃q,nval l / nval m=q:=⟨_,rfl⟩
 obtain ⟨r,hr⟩:∃r,nval l%nval m=r:=⟨_,rfl⟩
 have hF:Hid (vO (fitO (sgn (!(neg == neg2)) q))=sgn (!(neg == neg2)) q∧ngO (fitO (sgn (!(neg == neg2)) q))=decide (sgn (!(neg == neg2)) q<0)∧vO (fitO (sgn false r))=sgn false r∧ngO (fitO (sgn false r))=decide (sgn false r<0)):=by
  have e1:=zlI (x:=sgn (!(neg == neg2)) q) (by (have:(sgn (!(neg == neg2)) q).natAbs=q:=by (unfold sgn;split<;>simp));rw [this,← hq];exact hqb)
  have e2:=zlI (x:=sgn false r) (by (have:(sgn false r).natAbs=r:=by (unfold sgn;simp));rw [this,← hr];exact hrb)
  exact ⟨e1.1,e1.2,e2.1,e2.2⟩
 rw [hr] at hz
 rw [hq,hr] at OV ⊢
 clear h h1 h2 k1 hl hm hlb hmb hqb hrb hq hr hn k0
 have hguard:Hid (∀{W:World} {B A n c},Sl W B A n c (digs r)→neg=true→n=0):=fun {W B A n c} hs hn=>by
  rcases hz with hz | hz
  ·rw [hn] at hz;cases hz
  ·have:=hs.len;rw [hz,zx] at this;exact this.symm
 clear hz
 cases neg
 ·clear hguard
  rw [show (!(false == neg2))=neg2 by cases neg2<;>rfl] at hF ⊢
  go_enter Tryz.func143,Tryz.ntmps143
  go_wp2_with (first
   | (go_at_call 75;(with_reducible refine (R1.out _ s0.below).mono ?_);rintro e w1 ⟨rfl,hb⟩;have s1:=s0.via hb;obtain ⟨a0,a1,b0,b1,q0,q1,qf,r0,r1,rf,rz⟩:=s1.facts)
   | (go_at_call 75;(with_reducible refine (R2.out _ s1.below).mono ?_);rintro e w2 ⟨rfl,hb⟩;have s2:=s1.via hb;clear a0 a1 b0 b1 q0 q1 qf r0 r1 rf rz;obtain ⟨a0,a1,b0,b1,q0,q1,qf,r0,r1,rf,rz⟩:=s2.facts)
   | (go_at_call 106;(with_reducible refine (OV.out _ s2.below).mono ?_);rintro e w3 ⟨A3,n3,c3,A4,n4,c4,rfl,hsq,hsr,hb3⟩;have s3:=s2.via hb3;clear a0 a1 b0 b1 q0 q1 qf r0 r1 rf rz;obtain ⟨a0,a1,b0,b1,q0,q1,qf,r0,r1,rf,rz⟩:=s3.facts)
   | (go_at_call 90;(with_reducible refine (qd A3 n3 c3 w3.heap.size _ _ _ w3 hsq (Nat.le_refl _) (zn _)).mono ?_);rintro e w4 ⟨A5,n5,c5,rfl,hs5,hb4⟩;have s4:=s3.via hb4;clear a0 a1 b0 b1 q0 q1 qf r0 r1 rf rz;obtain ⟨a0,a1,b0,b1,q0,q1,qf,r0,r1,rf,rz⟩:=s4.facts)
   | (go_at_call 90;(with_reducible refine (qd A4 _ c4 w3.heap.size _ _ _ _ (hsr.below (hb4.alloc (Nat.le_trans hb4.size (Nat.le_refl _)) _)) (by have:=hb4.size;simp;omega) (zn _)).mono ?_);rintro e w5 ⟨A6,n6,c6,rfl,hs6,hb5⟩;have s5:=(s4.alloc _).via hb5;obtain ⟨e0,e1⟩:=S1.facts (w:=w4) (A:=A5) (n:=n5) (c:=c5) (hb5.mono (by simp));have hz5:=hb5.size;(try simp at hz5);clear a0 a1 b0 b1 q0 q1 qf r0 r1 rf rz;obtain ⟨a0,a1,b0,b1,q0,q1,qf,r0,r1,rf,rz⟩:=s5.facts)
   | fail "no arm")
  have hy5:w4.heap.size<w5.heap.size:=by omega
  have s6:=s5.alloc (.cells #[.bool (ngO (fitO (sgn false r))),.slice A6 n6 c6] 30)
  have k0:=(World.cell?_alloc_lt w5 (.cells #[.bool (ngO (fitO (sgn false r))),.slice A6 n6 c6] 30) ⟨w4.heap.size,0,none⟩ hy5).trans e0
  have k1:=(World.cell?_alloc_lt w5 (.cells #[.bool (ngO (fitO (sgn false r))),.slice A6 n6 c6] 30) ⟨w4.heap.size,1,none⟩ hy5).trans e1
  obtain ⟨g0,g1⟩:=(S1.start (w:=w5) (neg:=ngO (fitO (sgn false r))) (A:=A6) (n:=n6) (c:=c6)).facts
  have hs7:=(hs6.below ((Below.refl _ _).alloc (Nat.le_refl _) (.cells #[.bool (ngO (fitO (sgn false r))),.slice A6 n6 c6] 30))).more (B':=(w5.alloc (.cells #[.bool (ngO (fitO (sgn false r))),.slice A6 n6 c6] 30)).heap.size) (by simp)
  have hs8:=(hs5.below (((Below.refl _ _).alloc (Nat.le_refl _) _).trans ((hb5.mono (by simp)).alloc (by omega) (.cells #[.bool (ngO (fitO (sgn false r))),.slice A6 n6 c6] 30)))).more (B':=(w5.alloc (.cells #[.bool (ngO (fitO (sgn false r))),.slice A6 n6 c6] 30)).heap.size) (by simp;omega)
  obtain ⟨W6,hW6⟩:∃W6,w5.alloc (.cells #[.bool (ngO (fitO (sgn false r))),.slice A6 n6 c6] 30)=W6:=⟨_,rfl⟩
  rw [hW6] at s6 k0 k1 g0 g1 hs7 hs8 ⊢
  have y4:=s4.size
  have y5:=s5.size
  have y1:w5.heap.size≠w.heap.size+1+1:=by omega
  have y2:w5.heap.size≠w.heap.size+1+1+1:=by omega
  have y3:w4.heap.size≠w.heap.size+1+1:=by omega
  have y6:w4.heap.size≠w.heap.size+1+1+1:=by omega
  clear a0 a1 b0 b1 q0 q1 qf r0 r1 rf rz e0 e1 hs5 hs6 hW6
  obtain ⟨a0,a1,b0,b1,q0,q1,qf,r0,r1,rf,rz⟩:=s6.facts
  go_region
  go_wp2_with fail
  obtain ⟨f1,f2,f3,f4⟩:=hF.out
  obtain ⟨p0,p1,p2,p3⟩:=zcv (.bool (ngO (fitO (sgn neg2 q)))) (.slice A5 n5 c5) (.bool (ngO (fitO (sgn false r)))) (.slice A6 n6 c6) q0 q1 r0 r1 (by omega)
  rw [f1] at hs8
  rw [f3] at hs7
  refine bodyPost_ret (v:=.tuple #[.agg #[.bool (ngO (fitO (sgn neg2 q))),.slice A5 n5 c5],.agg #[.bool (ngO (fitO (sgn false r))),.slice A6 n6 c6],.bool true]) ?_ rfl ⟨A5,n5,c5,A6,n6,c6,by rw [f2,f4];rfl,?_,?_,?_⟩
  ·simp [results,Tryz.f143,go_sem,p0,p1,p2,p3]
  ·exact hs8.stored4 q0 q1 r0 r1 (by omega) _ _ _ _
  ·exact hs7.stored4 q0 q1 r0 r1 (by omega) _ _ _ _
  ·exact ((((s6.below.setCell (by simp;omega) _).setCell (by simp;omega) _).setCell (by simp;omega) _).setCell (by simp;omega) _).drew
 ·have hG:Hid (∀{W:World} {B:Nat} {A:Option Addr} {n c:Nat},Sl W B A n c (digs r)→n=0):=Lib.hid (fun hs=>hguard.out hs rfl)
  clear hguard
  rw [show (!(true == neg2))=!neg2 by cases neg2<;>rfl] at hF ⊢
  go_enter Tryz.func143,Tryz.ntmps143
  go_wp2_with (first
   | (go_at_call 75;(with_reducible refine (R1.out _ s0.below).mono ?_);rintro e w1 ⟨rfl,hb⟩;have s1:=s0.via hb;obtain ⟨a0,a1,b0,b1,q0,q1,qf,r0,r1,rf,rz⟩:=s1.facts)
   | (go_at_call 75;(with_reducible refine (R2.out _ s1.below).mono ?_);rintro e w2 ⟨rfl,hb⟩;have s2:=s1.via hb;clear a0 a1 b0 b1 q0 q1 qf r0 r1 rf rz;obtain ⟨a0,a1,b0,b1,q0,q1,qf,r0,r1,rf,rz⟩:=s2.facts)
   | (go_at_call 106;(with_reducible refine (OV.out _ s2.below).mono ?_);rintro e w3 ⟨A3,n3,c3,A4,n4,c4,rfl,hsq,hsr,hb3⟩;have s3:=s2.via hb3;clear a0 a1 b0 b1 q0 q1 qf r0 r1 rf rz;obtain ⟨a0,a1,b0,b1,q0,q1,qf,r0,r1,rf,rz⟩:=s3.facts;obtain rfl:=hG.out hsr)
   | (go_at_call 90;(with_reducible refine (qd A3 n3 c3 w3.heap.size _ _ _ w3 hsq (Nat.le_refl _) (zn _)).mono ?_);rintro e w4 ⟨A5,n5,c5,rfl,hs5,hb4⟩;have s4:=s3.via hb4;clear a0 a1 b0 b1 q0 q1 qf r0 r1 rf rz;obtain ⟨a0,a1,b0,b1,q0,q1,qf,r0,r1,rf,rz⟩:=s4.facts)
   | (go_at_call 90;(with_reducible refine (qd A4 _ c4 w3.heap.size _ _ _ _ (hsr.below (hb4.alloc (Nat.le_trans hb4.size (Nat.le_refl _)) _)) (by have:=hb4.size;simp;omega) (zn _)).mono ?_);rintro e w5 ⟨A6,n6,c6,rfl,hs6,hb5⟩;have s5:=(s4.alloc _).via hb5;obtain ⟨e0,e1⟩:=S1.facts (w:=w4) (A:=A5) (n:=n5) (c:=c5) (hb5.mono (by simp));have hz5:=hb5.size;(try simp at hz5);clear a0 a1 b0 b1 q0 q1 qf r0 r1 rf rz;obtain ⟨a0,a1,b0,b1,q0,q1,qf,r0,r1,rf,rz⟩:=s5.facts)
   | fail "no arm")
  have hy5:w4.heap.size<w5.heap.size:=by omega
  have s6:=s5.alloc (.cells #[.bool (ngO (fitO (sgn false r))),.slice A6 n6 c6] 30)
  have k0:=(World.cell?_alloc_lt w5 (.cells #[.bool (ngO (fitO (sgn false r))),.slice A6 n6 c6] 30) ⟨w4.heap.size,0,none⟩ hy5).trans e0
  have k1:=(World.cell?_alloc_lt w5 (.cells #[.bool (ngO (fitO (sgn false r))),.slice A6 n6 c6] 30) ⟨w4.heap.size,1,none⟩ hy5).trans e1
  obtain ⟨g0,g1⟩:=(S1.start (w:=w5) (neg:=ngO (fitO (sgn false r))) (A:=A6) (n:=n6) (c:=c6)).facts
  have hs7:=(hs6.below ((Below.refl _ _).alloc (Nat.le_refl _) (.cells #[.bool (ngO (fitO (sgn false r))),.slice A6 n6 c6] 30))).more (B':=(w5.alloc (.cells #[.bool (ngO (fitO (sgn false r))),.slice A6 n6 c6] 30)).heap.size) (by simp)
  have hs8:=(hs5.below (((Below.refl _ _).alloc (Nat.le_refl _) _).trans ((hb5.mono (by simp)).alloc (by omega) (.cells #[.bool (ngO (fitO (sgn false r))),.slice A6 n6 c6] 30)))).more (B':=(w5.alloc (.cells #[.bool (ngO (fitO (sgn false r))),.slice A6 n6 c6] 30)).heap.size) (by simp;omega)
  obtain ⟨W6,hW6⟩:∃W6,w5.alloc (.cells #[.bool (ngO (fitO (sgn false r))),.slice A6 n6 c6] 30)=W6:=⟨_,rfl⟩
  rw [hW6] at s6 k0 k1 g0 g1 hs7 hs8 ⊢
  have y4:=s4.size
  have y5:=s5.size
  have y1:w5.heap.size≠w.heap.size+1+1:=by omega
  have y2:w5.heap.size≠w.heap.size+1+1+1:=by omega
  have y3:w4.heap.size≠w.heap.size+1+1:=by omega
  have y6:w4.heap.size≠w.heap.size+1+1+1:=by omega
  clear a0 a1 b0 b1 q0 q1 qf r0 r1 rf rz e0 e1 hs5 hs6 hW6
  obtain ⟨a0,a1,b0,b1,q0,q1,qf,r0,r1,rf,rz⟩:=s6.facts
  go_region
  go_wp2_with fail
  obtain ⟨f1,f2,f3,f4⟩:=hF.out
  obtain ⟨p0,p1,p2,p3⟩:=zcv (.bool (ngO (fitO (sgn (!neg2) q)))) (.slice A5 n5 c5) (.bool (ngO (fitO (sgn false r)))) (.slice A6 n6 c6) q0 q1 r0 r1 (by omega)
  rw [f1] at hs8
  rw [f3] at hs7
  refine bodyPost_ret (v:=.tuple #[.agg #[.bool (ngO (fitO (sgn (!neg2) q))),.slice A5 n5 c5],.agg #[.bool (ngO (fitO (sgn false r))),.slice A6 n6 c6],.bool true]) ?_ rfl ⟨A5,n5,c5,A6,n6,c6,by rw [f2,f4];rfl,?_,?_,?_⟩
  ·simp [results,Tryz.f143,go_sem,p0,p1,p2,p3]
  ·exact hs8.stored4 q0 q1 r0 r1 (by omega) _ _ _ _
  ·exact hs7.stored4 q0 q1 r0 r1 (by omega) _ _ _ _
  ·exact ((((s6.below.setCell (by simp;omega) _).setCell (by simp;omega) _).setCell (by simp;omega) _).setCell (by simp;omega) _).drew
theorem zpr (neg2:Bool) {A A2:Option Addr} {n n2 c c2 B:Nat} {l m:List Nat} {w:World} (h:Sl w B A n c l) (h2:Sl w B A2 n2 c2 m) (hB:B≤w.heap.size) (h1:zw true l=true) (k1:zw neg2 m=true) (k0:0<n2) (hz:0<nval l%nval m) :
  Calls Tryz.prog 143 #[.agg #[.bool true,.slice A n c],.agg #[.bool neg2,.slice A2 n2 c2]] w (zfJ (some (sgn (!neg2) (nval l / nval m+1),sgn false (nval m - nval l%nval m))) w):=by
 have R1:=Lib.hid (zz true (h.more hB) true h1)
 have R2:=Lib.hid (zz neg2 (h2.more hB) true k1)
 have hl:=zC h1 h.dig
 have hm:=zC k1 h2.dig
 have hn:=hl.2.1
 have hn2:=hm.2.1
 rw [h.len] at hn
 rw [h2.len] at hn2
 have hV0:0<nval m:=by
  rcases Nat.eq_zero_or_pos (nval m) with h0 | h0
  ·have:=qD hm.1 h0;rw [← h2.len,this] at k0;simp at k0
  ·exact h0
 have hlb:nval l<big:=(qg hl.1).1 hl.2.1
 have hmb:nval m<big:=(qg hm.1).1 hm.2.1
 have hqb:nval l / nval m+1<big:=Nat.lt_of_le_of_lt (zuQ hV0 hz) hlb
 have hrl:=Nat.mod_lt (nval l) hV0
 have hrb:nval m - nval l%nval m<big:=by omega
 have OV:=Lib.hid (fun (W:World) (hW:Below w.heap.size w W)=>show Calls Tryz.prog 106 #[.slice A n c,.slice A2 n2 c2] W (RetQR (nval l / nval m) (nval l%nval m) W) from zdC ((h.more hB).below hW) ((h2.more hB).below hW) hW.size hl.1 hm.1 hn hn2 (zp2 hm.1 h2.len k0))
 have s0:=Sd.start (w:=w) (neg:=true) (A:=A) (n:=n) (c:=c) (neg2:=neg2) (A2:=A2) (n2:=n2) (c2:=c2)
 have hne:((n2:Int) == 0)=false:=by simp;omega
 have hne2:(n2:Int)≠0:=by omega
 have H2:=Lib.hid (h2.more hB)
 have hc2:Hid (Canon m):=Lib.hid hm.1
 obtain ⟨q,hq⟩:∃q,nval l / nval m=q:=⟨_,rfl⟩
 obtain ⟨r,hr⟩:∃r,nval l%nval m=r:=⟨_,rfl⟩
 obtain ⟨V,hV⟩:∃V,nval m=V:=⟨_,rfl⟩
 rw [hq] at hqb
 rw [hr] at hrb hrl hz
 rw [hq,hr] at OV ⊢
 rw [hV] at hrb hrl ⊢
 have hF:Hid (vO (fitO (sgn (!neg2) (q+1)))=sgn (!neg2) (q+1)∧ngO (fitO (sgn (!neg2) (q+1)))=decide (sgn (!neg2) (q+1)<0)∧vO (fitO (sgn false (V - r)))=sgn false (V - r)∧ngO (fitO (sgn false (V - r)))=decide (sgn false (V - r)<0)):=by
  have e1:=zlI (x:=sgn (!neg2) (q+1)) (by (have:(sgn (!neg2) (q+1)).natAbs=q+1:=by (unfold sgn;split<;>omega));rw [this];exact hqb)
  have e2:=zlI (x:=sgn false (V - r)) (by (have:(sgn false (V - r)).natAbs=V - r:=by (unfold sgn;simp));rw [this];exact hrb)
  exact ⟨e1.1,e1.2,e2.1,e2.2⟩
 have hq64:Hid (∀{W:World} {B:Nat} {A:Option Addr} {n c:Nat},Sl W B A n c (digs q)→n≤1000):=Lib.hid (fun hs=>by
  have h1:=(zaq q).2 (show q<4294967296 ^ 64 from Nat.lt_trans (by omega) hqb)
  rw [hs.len] at h1;omega)
 have hr64:Hid (∀{W:World} {B:Nat} {A:Option Addr} {n c:Nat},Sl W B A n c (digs r)→n≤n2∧0<n):=Lib.hid (fun hs=>by
  have h1:=zaJ (zL r) hc2.out.1 (by rw [zn,hV];omega)
  rw [hs.len,h2.len] at h1
  refine ⟨h1,?_⟩
  rw [← hs.len]
  rcases Nat.eq_zero_or_pos (digs r).length with h0 | h0
  ·have:=zcu.1 (List.eq_nil_of_length_eq_zero h0);omega
  ·exact h0)
 clear h h1 h2 k1 hl hm hlb hmb hqb hrb hq hr hn k0 hV0
 go_enter Tryz.func143,Tryz.ntmps143
 go_upto_region 5 with (first
  | (go_at_call 75;(with_reducible refine (R1.out _ s0.below).mono ?_);rintro e w1 ⟨rfl,hb⟩;have s1:=s0.via hb;obtain ⟨a0,a1,b0,b1,q0,q1,qf,r0,r1,rf,rz⟩:=s1.facts)
  | (go_at_call 75;(with_reducible refine (R2.out _ s1.below).mono ?_);rintro e w2 ⟨rfl,hb⟩;have s2:=s1.via hb;clear a0 a1 b0 b1 q0 q1 qf r0 r1 rf rz;obtain ⟨a0,a1,b0,b1,q0,q1,qf,r0,r1,rf,rz⟩:=s2.facts)
  | (go_at_call 106;(with_reducible refine (OV.out _ s2.below).mono ?_);rintro e w3 ⟨A3,n3,c3,A4,n4,c4,rfl,hsq,hsr,hb3⟩;have s3:=s2.via hb3;clear a0 a1 b0 b1 q0 q1 qf r0 r1 rf rz;obtain ⟨a0,a1,b0,b1,q0,q1,qf,r0,r1,rf,rz⟩:=s3.facts;have hn4:(0:Int)<n4:=by (have:=(hr64.out hsr).2;omega))
  | fail "no arm")
 have PL:=Lib.hid (fun (W:World) (g:Nat) (hW:Below w3.heap.size w3 W) (hD:DBk W g 123 [1])=>show Calls Tryz.prog 140 #[.slice A3 n3 c3,.slice (some ⟨g,0,none⟩) 1 1] W (RetD (q+1) W) from by
  have:=zbV A3 (some ⟨g,0,none⟩) n3 c3 1 1 W.heap.size (digs q) [1] W ((hsq.below hW).more hW.size) (hD.sl (B:=W.heap.size) (by intro d hd;simp at hd;omega) hD.lt (by simp)) (Nat.le_refl _) (hq64.out hsq) (by simp)
  rw [zn,show nval [1]=1 from rfl] at this
  exact this)
 have MI:=Lib.hid (fun (W:World) (hW:Below w3.heap.size w3 W)=>show Calls Tryz.prog 134 #[.slice A2 n2 c2,.slice A4 n4 c4] W (RetD (V - r) W) from by
  have:=zcg A2 A4 n2 c2 n4 c4 W.heap.size m (digs r) W ((H2.out.below (s3.below.trans (hW.mono s3.below.size))).more (Nat.le_trans s3.below.size hW.size)) ((hsr.below hW).more hW.size) (Nat.le_refl _) (by omega) (hr64.out hsr).1 (by rw [zn,hV];omega)
  rw [zn,hV] at this
  exact this)
 have u1:Below w3.heap.size w3 (w3.alloc (.cells #[.int .u32 1] 123)):=(Below.refl _ _).alloc (Nat.le_refl _) _
 have d1:DBk (w3.alloc (.cells #[.int .u32 1] 123)) w3.heap.size 123 [1]:=zI w3 _ _ rfl
 have hd4:decide (0<n4)=true:=by simp;omega
 simp only [hd4]
 go_upto_region 7 with (first
  | (go_at_call 140;go_loud ((with_reducible refine (PL.out _ _ u1 d1).mono ?_);rintro e w4 ⟨A5,n5,c5,rfl,hp,hb4⟩;have u4:=u1.trans (hb4.mono u1.size);have s4:=s3.via u4;clear a0 a1 b0 b1 q0 q1 qf r0 r1 rf rz;obtain ⟨a0,a1,b0,b1,q0,q1,qf,r0,r1,rf,rz⟩:=s4.facts))
  | (go_at_call 134;go_loud ((with_reducible refine (MI.out _ u4).mono ?_);rintro e wc ⟨A6,n6,c6,rfl,hmi,hb6⟩;have uc:=u4.trans (hb6.mono u4.size);replace hp:=(hp.below hb6).more hb6.size))
  | fail "no arm")
 clear hsq hsr
 have hsq:=hp
 have hsr:=hmi
 have sc:=s3.via uc
 clear a0 a1 b0 b1 q0 q1 qf r0 r1 rf rz
 obtain ⟨a0,a1,b0,b1,q0,q1,qf,r0,r1,rf,rz⟩:=sc.facts
 go_wp2_with (first
  | (go_at_call 90;(with_reducible refine (qd A5 n5 c5 wc.heap.size _ _ _ wc hsq (Nat.le_refl _) (zn _)).mono ?_);rintro e w4 ⟨A7,n7,c7,rfl,hs5,hb4⟩;have s4:=sc.via hb4;clear a0 a1 b0 b1 q0 q1 qf r0 r1 rf rz;obtain ⟨a0,a1,b0,b1,q0,q1,qf,r0,r1,rf,rz⟩:=s4.facts)
  | (go_at_call 90;(with_reducible refine (qd A6 n6 c6 wc.heap.size _ _ _ _ (hsr.below (hb4.alloc (Nat.le_trans hb4.size (Nat.le_refl _)) _)) (by have:=hb4.size;simp;omega) (zn _)).mono ?_);rintro e w5 ⟨A8,n8,c8,rfl,hs6,hb5⟩;have s5:=(s4.alloc _).via hb5;obtain ⟨e0,e1⟩:=S1.facts (w:=w4) (A:=A7) (n:=n7) (c:=c7) (hb5.mono (by simp));have hz5:=hb5.size;(try simp at hz5);clear a0 a1 b0 b1 q0 q1 qf r0 r1 rf rz;obtain ⟨a0,a1,b0,b1,q0,q1,qf,r0,r1,rf,rz⟩:=s5.facts)
  | fail "no arm")
 have hy5:w4.heap.size<w5.heap.size:=by omega
 have s6:=s5.alloc (.cells #[.bool (ngO (fitO (sgn false (V - r)))),.slice A8 n8 c8] 30)
 have k0:=(World.cell?_alloc_lt w5 (.cells #[.bool (ngO (fitO (sgn false (V - r)))),.slice A8 n8 c8] 30) ⟨w4.heap.size,0,none⟩ hy5).trans e0
 have k1:=(World.cell?_alloc_lt w5 (.cells #[.bool (ngO (fitO (sgn false (V - r)))),.slice A8 n8 c8] 30) ⟨w4.heap.size,1,none⟩ hy5).trans e1
 obtain ⟨g0,g1⟩:=(S1.start (w:=w5) (neg:=ngO (fitO (sgn false (V - r)))) (A:=A8) (n:=n8) (c:=c8)).facts
 have hs7:=(hs6.below ((Below.refl _ _).alloc (Nat.le_refl _) (.cells #[.bool (ngO (fitO (sgn false (V - r)))),.slice A8 n8 c8] 30))).more (B':=(w5.alloc (.cells #[.bool (ngO (fitO (sgn false (V - r)))),.slice A8 n8 c8] 30)).heap.size) (by simp)
 have hs8:=(hs5.below (((Below.refl _ _).alloc (Nat.le_refl _) _).trans ((hb5.mono (by simp)).alloc (by omega) (.cells #[.bool (ngO (fitO (sgn false (V - r)))),.slice A8 n8 c8] 30)))).more (B':=(w5.alloc (.cells #[.bool (ngO (fitO (sgn false (V - r)))),.slice A8 n8 c8] 30)).heap.size) (by simp;omega)
 obtain ⟨W6,hW6⟩:∃W6,w5.alloc (.cells #[.bool (ngO (fitO (sgn false (V - r)))),.slice A8 n8 c8] 30)=W6:=⟨_,rfl⟩
 rw [hW6] at s6 k0 k1 g0 g1 hs7 hs8 ⊢
 have y4:=s4.size
 have y5:=s5.size
 have y1:w5.heap.size≠w.heap.size+1+1:=by omega
 have y2:w5.heap.size≠w.heap.size+1+1+1:=by omega
 have y3:w4.heap.size≠w.heap.size+1+1:=by omega
 have y6:w4.heap.size≠w.heap.size+1+1+1:=by omega
 clear a0 a1 b0 b1 q0 q1 qf r0 r1 rf rz e0 e1 hs5 hs6 hW6
 obtain ⟨a0,a1,b0,b1,q0,q1,qf,r0,r1,rf,rz⟩:=s6.facts
 go_region
 go_wp2_with fail
 obtain ⟨f1,f2,f3,f4⟩:=hF.out
 obtain ⟨p0,p1,p2,p3⟩:=zcv (.bool (ngO (fitO (sgn (!neg2) (q+1))))) (.slice A7 n7 c7) (.bool (ngO (fitO (sgn false (V - r))))) (.slice A8 n8 c8) q0 q1 r0 r1 (by omega)
 rw [f1] at hs8
 rw [f3] at hs7
 refine bodyPost_ret (v:=.tuple #[.agg #[.bool (ngO (fitO (sgn (!neg2) (q+1)))),.slice A7 n7 c7],.agg #[.bool (ngO (fitO (sgn false (V - r)))),.slice A8 n8 c8],.bool true]) ?_ rfl ⟨A7,n7,c7,A8,n8,c8,by rw [f2,f4];rfl,?_,?_,?_⟩
 ·simp [results,Tryz.f143,go_sem,p0,p1,p2,p3]
 ·exact hs8.stored4 q0 q1 r0 r1 (by omega) _ _ _ _
 ·exact hs7.stored4 q0 q1 r0 r1 (by omega) _ _ _ _
 ·exact ((((s6.below.setCell (by simp;omega) _).setCell (by simp;omega) _).setCell (by simp;omega) _).setCell (by simp;omega) _).drew
theorem zmX (neg neg2:Bool) {A A2:Option Addr} {n n2 c c2 B:Nat} {l m:List Nat} {w:World} (h:Sl w B A n c l) (h2:Sl w B A2 n2 c2 m) (hB:B≤w.heap.size) :
  Calls Tryz.prog 143 #[.agg #[.bool neg,.slice A n c],.agg #[.bool neg2,.slice A2 n2 c2]] w (zfJ (divS neg l neg2 m) w):=by
 cases h1:zw neg l with
 | false=>rw [show divS neg l neg2 m=none by unfold divS;rw [if_neg (by rw [h1];simp)]];exact zmY neg neg2 h hB h1
 | true =>
  cases k1:zw neg2 m with
  | false=>rw [show divS neg l neg2 m=none by unfold divS;rw [if_neg (by rw [k1];simp)]];exact zmZ neg neg2 h h2 hB h1 k1
  | true =>
   by_cases k0:m=[]
   ·rw [show divS neg l neg2 m=none by unfold divS;rw [if_neg (by simp [k0])]];exact zm0 neg neg2 h h2 hB h1 k1 k0
   ·rw [show divS neg l neg2 m=some (sgn neg (nval l) / sgn neg2 (nval m),sgn neg (nval l)%sgn neg2 (nval m)) by unfold divS;rw [if_pos ⟨h1,k1,k0⟩]]
    have hn2:0<n2:=by
     rw [← h2.len];exact List.length_pos_iff.2 k0
    have hm:=zC k1 h2.dig
    have hV0:0<nval m:=by
     rcases Nat.eq_zero_or_pos (nval m) with h0 | h0
     ·exact absurd (qD hm.1 h0) k0
     ·exact h0
    by_cases hz:neg=false∨nval l%nval m=0
    ·have:=ziy neg neg2 h h2 hB h1 k1 hn2 hz
     rwa [zos hV0 neg neg2 hz] at this
    ·have hz1:neg=true:=by cases neg<;>simp_all
     subst hz1
     have hz2:0<nval l%nval m:=by
      rcases Nat.eq_zero_or_pos (nval l%nval m) with h0 | h0
      ·exact absurd (Or.inr h0) hz
      ·exact h0
     have:=zpr neg2 h h2 hB h1 k1 hn2 hz2
     rwa [zh6 hV0 neg2 hz2] at this
theorem zm2 (neg neg2:Bool) {A A2:Option Addr} {n n2 c c2 B:Nat} {l:List Nat} {w:World} (h:Sl w B A n c l) (hB:B≤w.heap.size) (h1:zw neg l=false) :
  Calls Tryz.prog 78 #[.agg #[.bool neg,.slice A n c],.agg #[.bool neg2,.slice A2 n2 c2]] w (RetN none w):=by
 have R1:=Lib.hid (zz neg (h.more hB) false h1)
 have s0:=Sm.start (w:=w) (neg:=neg) (A:=A) (n:=n) (c:=c) (neg2:=neg2) (A2:=A2) (n2:=n2) (c2:=c2)
 clear h h1
 go_enter Tryz.func78,Tryz.ntmps78
 go_wp2_with (go_at_call 75;refine (R1.out _ s0.below).mono ?_;rintro e w1 ⟨rfl,hb⟩;have s1:=s0.via hb;obtain ⟨a0,a1,b0,b1,r0,r1,rf,rz⟩:=s1.facts)
 obtain ⟨q0,q1⟩:=zJ (.bool false) (.slice none 0 0) r0 r1
 refine bodyPost_ret (v:=.tuple #[.agg #[.bool false,.slice none 0 0],.bool false]) ?_ rfl ⟨_,_,_,rfl,by rw [show digs (vO none).natAbs=[] from zx];exact Sl.none_,?_⟩
 ·simp [results,Tryz.f78,go_sem,q0,q1]
 ·exact (s1.below.setCell (by simp;omega) _).setCell (by simp;omega) _
theorem zm3 (neg neg2:Bool) {A A2:Option Addr} {n n2 c c2 B:Nat} {l m:List Nat} {w:World} (h:Sl w B A n c l) (h2:Sl w B A2 n2 c2 m) (hB:B≤w.heap.size) (h1:zw neg l=true) (k1:zw neg2 m=false) :
  Calls Tryz.prog 78 #[.agg #[.bool neg,.slice A n c],.agg #[.bool neg2,.slice A2 n2 c2]] w (RetN none w):=by
 have R1:=Lib.hid (zz neg (h.more hB) true h1)
 have R2:=Lib.hid (zz neg2 (h2.more hB) false k1)
 have s0:=Sm.start (w:=w) (neg:=neg) (A:=A) (n:=n) (c:=c) (neg2:=neg2) (A2:=A2) (n2:=n2) (c2:=c2)
 clear h h1 h2 k1
 go_enter Tryz.func78,Tryz.ntmps78
 go_wp2_with (first
  | (go_at_call 75;(with_reducible refine (R1.out _ s0.below).mono ?_);rintro e w1 ⟨rfl,hb⟩;have s1:=s0.via hb;obtain ⟨a0,a1,b0,b1,r0,r1,rf,rz⟩:=s1.facts)
  | (go_at_call 75;(with_reducible refine (R2.out _ s1.below).mono ?_);rintro e w2 ⟨rfl,hb⟩;have s2:=s1.via hb;clear a0 a1 b0 b1 r0 r1 rf rz;obtain ⟨a0,a1,b0,b1,r0,r1,rf,rz⟩:=s2.facts)
  | fail "no arm")
 obtain ⟨q0,q1⟩:=zJ (.bool false) (.slice none 0 0) r0 r1
 refine bodyPost_ret (v:=.tuple #[.agg #[.bool false,.slice none 0 0],.bool false]) ?_ rfl ⟨_,_,_,rfl,by rw [show digs (vO none).natAbs=[] from zx];exact Sl.none_,?_⟩
 ·simp [results,Tryz.f78,go_sem,q0,q1]
 ·exact (s2.below.setCell (by simp;omega) _).setCell (by simp;omega) _
theorem zm4 (neg neg2:Bool) {A A2:Option Addr} {n n2 c c2 B:Nat} {l m:List Nat} {w:World} (h:Sl w B A n c l) (h2:Sl w B A2 n2 c2 m) (hB:B≤w.heap.size) (h1:zw neg l=true) (k1:zw neg2 m=true) :
  Calls Tryz.prog 78 #[.agg #[.bool neg,.slice A n c],.agg #[.bool neg2,.slice A2 n2 c2]] w (RetN (fitO ((Nat.gcd (nval l) (nval m):Nat):Int)) w):=by
 have R1:=Lib.hid (zz neg (h.more hB) true h1)
 have R2:=Lib.hid (zz neg2 (h2.more hB) true k1)
 have hl:=zC h1 h.dig
 have hm:=zC k1 h2.dig
 have hlb:nval l<big:=(qg hl.1).1 hl.2.1
 have hmb:nval m<big:=(qg hm.1).1 hm.2.1
 have h':=Lib.hid (h.more hB)
 have h2':=Lib.hid (h2.more hB)
 have s0:=Sm.start (w:=w) (neg:=neg) (A:=A) (n:=n) (c:=c) (neg2:=neg2) (A2:=A2) (n2:=n2) (c2:=c2)
 obtain ⟨G,hG⟩:∃G,Nat.gcd (nval l) (nval m)=G:=⟨_,rfl⟩
 rw [hG]
 have I0:Hid (∃p q,l=digs p∧m=digs q∧Nat.gcd p q=G∧p<big∧q<big):=Lib.hid ⟨nval l,nval m,zbm hl.1,zbm hm.1,hG,hlb,hmb⟩
 clear h h1 h2 k1 hl hm hlb hmb hG
 go_enter Tryz.func78,Tryz.ntmps78
 go_wp2_with (first
  | (go_at_call 75;(with_reducible refine (R1.out _ s0.below).mono ?_);rintro e w1 ⟨rfl,hb⟩;have s1:=s0.via hb;obtain ⟨a0,a1,b0,b1,r0,r1,rf,rz⟩:=s1.facts)
  | (go_at_call 75;(with_reducible refine (R2.out _ s1.below).mono ?_);rintro e w2 ⟨rfl,hb⟩;have s2:=s1.via hb;clear a0 a1 b0 b1 r0 r1 rf rz;obtain ⟨a0,a1,b0,b1,r0,r1,rf,rz⟩:=s2.facts)
  | fail "no arm")
 have s3:=s2
 clear a0 a1 b0 b1 r0 r1 rf rz R1 R2
 go_loopw [6,7] (fun x y wr=>∃A3 n3 c3 p A4 n4 c4 q,x=.slice A3 n3 c3∧y=.slice A4 n4 c4∧Sm w neg A n c neg2 A2 n2 c2 wr∧Hid (Sl wr wr.heap.size A3 n3 c3 (digs p)∧Sl wr wr.heap.size A4 n4 c4 (digs q)∧Nat.gcd p q=G∧p<big∧q<big)) (fun _ y wr=>slv wr y)
 case atStart =>
  obtain ⟨p,q,rfl,rfl,i1,i2,i3⟩:=I0.out
  exact ⟨A,n,c,p,A2,n2,c2,q,rfl,rfl,s3,Lib.hid ⟨(h'.out.below s3.below).more s3.below.size,(h2'.out.below s3.below).more s3.below.size,i1,i2,i3⟩⟩
 case round =>
  obtain ⟨A3,n3,c3,p,A4,n4,c4,q,rfl,rfl,sr,hI⟩:=hrel
  obtain ⟨a0,a1,b0,b1,r0,r1,rf,rz⟩:=sr.facts
  by_cases h6:(0:Int)<n4
  ·have hq0:0<q:=by have:=(qG hI.out.2.1).2;omega
   have OV:Hid (Calls Tryz.prog 106 #[.slice A3 n3 c3,.slice A4 n4 c4] wr (RetQR (p / q) (p%q) wr)):=by
    obtain ⟨i1,i2,i3,i4,i5⟩:=hI.out
    have:=zdC i1 i2 (Nat.le_refl _) (zL p) (zL q) (zat i1 i4) (zat i2 i5) (by rw [zn];omega)
    rw [zn,zn] at this
    exact Lib.hid this
   go_wp2_with (first
    | (go_at_call 106;(with_reducible refine (OV.out).mono ?_);rintro e w3 ⟨A5,n5,c5,A6,n6,c6,rfl,hsq,hsr,hb3⟩;have sr2:=sr.via hb3)
    | fail "no arm")
   obtain ⟨i1,i2,i3,i4,i5⟩:=hI.out
   refine ⟨⟨A4,n4,c4,q,A6,n6,c6,p%q,rfl,rfl,sr2,Lib.hid ⟨(i2.below hb3).more hb3.size,hsr,by rw [zgY];exact i3,i5,Nat.lt_trans (Nat.mod_lt _ hq0) i5⟩⟩,?_⟩
   rw [zcJ hsr,zcJ i2,zn,zn]
   exact Nat.mod_lt _ hq0
  ·obtain rfl:n4=0:=by omega
   have hq0:q=0:=(qG hI.out.2.1).1 rfl
   obtain rfl:p=G:=by have:=hI.out.2.2.1;rwa [hq0,Nat.gcd_zero_right] at this
   have NU:=Lib.hid (qd A3 n3 c3 wr.heap.size _ false _ wr hI.out.1 (Nat.le_refl _) (zn _))
   clear hq0 hI
   go_wp2_with (first
    | (go_at_call 90;(with_reducible refine (NU.out).mono ?_);rintro e w2 ⟨A6,n6,c6,rfl,hs6,hb6⟩;have s6:=sr.via hb6;clear a0 a1 b0 b1 r0 r1 rf rz;obtain ⟨a0,a1,b0,b1,r0,r1,rf,rz⟩:=s6.facts)
    | fail "no arm")
   obtain ⟨q0,q1⟩:=zJ (.bool (ngO (fitO (sgn false p)))) (.slice A6 n6 c6) r0 r1
   refine bodyPost_ret (v:=.tuple #[.agg #[.bool (ngO (fitO (sgn false p))),.slice A6 n6 c6],.bool (okO (fitO (sgn false p)))]) ?_ rfl ⟨_,_,_,rfl,?_,?_⟩
   ·simp [results,Tryz.f78,go_sem,q0,q1]
   ·exact hs6.stored r0 r1 _ _
   ·exact (s6.below.setCell (by simp;omega) _).setCell (by simp;omega) _
theorem zm1 (neg neg2:Bool) {A A2:Option Addr} {n n2 c c2 B:Nat} {l m:List Nat} {w:World} (h:Sl w B A n c l) (h2:Sl w B A2 n2 c2 m) (hB:B≤w.heap.size) :
  Calls Tryz.prog 78 #[.agg #[.bool neg,.slice A n c],.agg #[.bool neg2,.slice A2 n2 c2]] w (RetN (gcdS neg l neg2 m) w):=by
 cases h1:zw neg l with
 | false=>rw [show gcdS neg l neg2 m=none by unfold gcdS;rw [if_neg (by rw [h1];simp)]];exact zm2 neg neg2 h hB h1
 | true =>
  cases k1:zw neg2 m with
  | false=>rw [show gcdS neg l neg2 m=none by unfold gcdS;rw [if_neg (by rw [k1];simp)]];exact zm3 neg neg2 h h2 hB h1 k1
  | true =>
   rw [show gcdS neg l neg2 m=fitO ((Nat.gcd (nval l) (nval m):Nat):Int) by unfold gcdS;rw [if_pos ⟨h1,k1⟩]]
   exact zm4 neg neg2 h h2 hB h1 k1
end Go.Proofs.YtjcegdldgjphiaaGreatDoor
namespace Go.Proofs.YtjcegdldgjphiaaGreatDoor
theorem zdB {x:Int} {d:Nat} (hd:d≠0):(Rat.divInt x (d:Int)).num=x / ((Nat.gcd x.natAbs d:Nat):Int)∧(Rat.divInt x (d:Int)).den=d / Nat.gcd x.natAbs d:=by
 rw [Rat.divInt_ofNat,← Rat.normalize_eq_mkRat hd,Rat.normalize_eq]
 exact ⟨rfl,rfl⟩
theorem zj2 {x:Int} {d:Nat} (hd:d≠0):(Rat.divInt x (-(d:Int))).num=(-x) / ((Nat.gcd x.natAbs d:Nat):Int)∧(Rat.divInt x (-(d:Int))).den=d / Nat.gcd x.natAbs d:=by
 rw [Rat.divInt_neg']
 have:=zdB (x:=-x) hd
 rwa [Int.natAbs_neg] at this
def ofR (x y:Int):Option Rat:=if y=0 then none else some (Rat.divInt x y)
def nO (r:Option Rat):Int:=(r.map Rat.num).getD 0
def dO (r:Option Rat):Nat:=(r.map Rat.den).getD 0
theorem ztR {x:Int} {g:Bool} {d:Nat} (hd:d≠0):∃q,ofR x (sgn g d)=some q∧q.num=(if g then -x else x) / ((Nat.gcd x.natAbs d:Nat):Int)∧q.den=d / Nat.gcd x.natAbs d:=by
 have h0:sgn g d≠0:=by cases g<;>simp [sgn]<;>omega
 refine ⟨Rat.divInt x (sgn g d),by unfold ofR;rw [if_neg h0],?_⟩
 cases g
 ·exact zdB hd
 ·exact zj2 hd
theorem zvn {x:Int} {d:Nat} (hd:d≠0):Nat.gcd x.natAbs d≠0:=fun h=>hd (Nat.eq_zero_of_gcd_eq_zero_right h)
theorem zh5 {x:Int} {d:Nat}:((Nat.gcd x.natAbs d:Nat):Int) ∣ x:=Int.ofNat_dvd_left.2 (Nat.gcd_dvd_left _ _)
theorem zg5 {x:Int} {d:Nat}:(-x) / ((Nat.gcd x.natAbs d:Nat):Int)=-(x / ((Nat.gcd x.natAbs d:Nat):Int)):=Int.neg_ediv_of_dvd zh5
def zvR (g1:Bool) (l:List Nat) (g2:Bool) (m:List Nat):Bool:=zw g1 l && (zw g2 m && (decide (0<sgn g2 (nval m)) && decide (Nat.gcd (nval l) (nval m)=1)))
def ratOf (g1:Bool) (l:List Nat) (g2:Bool) (m:List Nat):Option Rat:=if zvR g1 l g2 m=true then some (mkRat (sgn g1 (nval l)) (nval m)) else none
theorem zu8 (p q:Rat):ofR (p.num*q.den+q.num*p.den) (p.den*q.den)=some (p+q):=by
 have h0:((p.den:Int)*q.den)≠0:=Int.mul_ne_zero (by have:=p.den_nz;omega) (by have:=q.den_nz;omega)
 unfold ofR
 rw [if_neg h0,← Rat.divInt_add_divInt _ _ (by have:=p.den_nz;omega) (by have:=q.den_nz;omega),Rat.num_divInt_den,Rat.num_divInt_den]
theorem zvu (p q:Rat):ofR (p.num*q.num) (p.den*q.den)=some (p*q):=by
 have h0:((p.den:Int)*q.den)≠0:=Int.mul_ne_zero (by have:=p.den_nz;omega) (by have:=q.den_nz;omega)
 unfold ofR
 rw [if_neg h0,← Rat.divInt_mul_divInt,Rat.num_divInt_den,Rat.num_divInt_den]
end Go.Proofs.YtjcegdldgjphiaaGreatDoor
namespace Go.Proofs.YtjcegdldgjphiaaGreatDoor
open Go.RowKit Go.Shelf
theorem zuB (x:Int):sgn (!decide (x<0)) x.natAbs=-x:=by
 by_cases h:x<0
 ·simp [sgn,h];omega
 ·simp [sgn,h];omega
theorem zc4 {x:Int} (h:x.natAbs<big):fitO x=some x:=if_pos h
theorem zgX {x y:Int} (hx:x.natAbs<big) (hy:y.natAbs<big):Nat.gcd x.natAbs y.natAbs<big:=by
 rcases Nat.eq_zero_or_pos x.natAbs with h | h
 ·rw [h,Nat.gcd_zero_left];exact hy
 ·exact Nat.lt_of_le_of_lt (Nat.gcd_le_left _ h) hx
section
variable {x y:Int} {A A2:Option Addr} {n n2 c c2:Nat} {W:World}
end
end Go.Proofs.YtjcegdldgjphiaaGreatDoor
namespace Go.Proofs.YtjcegdldgjphiaaGreatDoor
open Go.RowKit Go.Shelf
def allocs (w:World):List (Array Value×TypeId)→World
 | []=>w
 | o::r=>allocs (w.alloc (.cells o.1 o.2)) r
theorem zev:∀(os:List (Array Value×TypeId)) (w:World),(allocs w os).heap.size=w.heap.size+os.length
 | [],w=>rfl
 | o::r,w=>by
  rw [allocs,zev r,World.size_alloc,List.length_cons];omega
theorem zb3:∀(os:List (Array Value×TypeId)) (w:World),Below w.heap.size w (allocs w os)
 | [],w=>Below.refl _ _
 | o::r,w=>((Below.refl _ _).alloc (Nat.le_refl _) _).trans ((zb3 r _).mono (by simp))
theorem zdv:∀(os:List (Array Value×TypeId)) (w:World) (i:Nat) (cs:Array Value) (T:TypeId),os[i]?=some (cs,T)→(allocs w os).heap[w.heap.size+i]?=some (.cells cs T (0,0))
 | [],w,i,cs,T,h=>by simp at h
 | o::r,w,0,cs,T,h=>by
  simp at h
  subst h
  have h2:=(zb3 r (w.alloc (.cells cs T))).block w.heap.size (by simp)
  exact h2.trans (heap_alloc_new w _)
 | o::r,w,i+1,cs,T,h=>by
  have h2:=zdv r (w.alloc (.cells o.1 o.2)) i cs T (by simpa using h)
  rw [World.size_alloc] at h2
  rw [allocs,show w.heap.size+(i+1)=w.heap.size+1+i by omega]
  exact h2
def MX (w:World) (os:List (Array Value×TypeId)) (W:World):Prop:=Below (w.heap.size+os.length) (allocs w os) W
section
variable {w W W1:World} {os:List (Array Value×TypeId)}
theorem MX.start:MX w os (allocs w os):=Below.refl _ _
theorem MX.size (h:MX w os W):w.heap.size+os.length≤W.heap.size:=by have:=Below.size h;rwa [zev] at this
theorem MX.via (h:MX w os W) (hb:Below W.heap.size W W1):MX w os W1:=Below.trans h (hb.mono h.size)
theorem MX.drew (h:MX w os W):MX w os W.drew:=Below.drew h
theorem MX.drewN (h:MX w os W) (k:Nat):MX w os (W.drewN k):=zX h k
theorem MX.below (h:MX w os W):Below w.heap.size w W:=(zb3 os w).trans (Below.mono h (by omega))
theorem MX.cell (h:MX w os W) {i j:Nat} {cs:Array Value} {T:TypeId} {u:Value} (hi:os[i]?=some (cs,T)) (hu:cs[j]?=some u):W.cell? ⟨w.heap.size+i,j,none⟩=some u:=by
 have h':Below (w.heap.size+os.length) (allocs w os) W:=h
 have hl:i<os.length:=(List.getElem?_eq_some_iff.1 hi).1
 rw [h'.cell (p:=⟨w.heap.size+i,j,none⟩) (by simp;omega),zaL (zdv os w i cs T hi)]
 exact hu
theorem MX.frozen (h:MX w os W) {i:Nat} {cs:Array Value} {T:TypeId} (hi:os[i]?=some (cs,T)) (j:Nat):W.frozen? ⟨w.heap.size+i,j,none⟩=false:=by
 have h':Below (w.heap.size+os.length) (allocs w os) W:=h
 have hl:i<os.length:=(List.getElem?_eq_some_iff.1 hi).1
 rw [h'.frozen (p:=⟨w.heap.size+i,j,none⟩) (by simp;omega),zbn (zdv os w i cs T hi)]
theorem MX.lt (h:MX w os W) {i:Nat} (hi:i<os.length):w.heap.size+i<W.heap.size:=by have:=h.size;omega
end
def put4 (W:World) (b:Nat) (v0 v1 v2 v3:Value):World:=(((W.setCell ⟨b,0,none⟩ v0).setCell ⟨b,1,none⟩ v1).setCell ⟨b,2,none⟩ v2).setCell ⟨b,3,none⟩ v3
theorem zu7 {W:World} {b:Nat} {u0 u1 u2 u3:Value} (v0 v1 v2 v3:Value) (g0:W.cell? ⟨b,0,none⟩=some u0) (g1:W.cell? ⟨b,1,none⟩=some u1) (g2:W.cell? ⟨b,2,none⟩=some u2) (g3:W.cell? ⟨b,3,none⟩=some u3) :
  (put4 W b v0 v1 v2 v3).cell? ⟨b,0,none⟩=some v0∧(put4 W b v0 v1 v2 v3).cell? ⟨b,1,none⟩=some v1∧(put4 W b v0 v1 v2 v3).cell? ⟨b,2,none⟩=some v2∧(put4 W b v0 v1 v2 v3).cell? ⟨b,3,none⟩=some v3:=by
 unfold put4
 refine ⟨?_,?_,?_,?_⟩
 ·rw [World.cell?_setCell_other _ _ _ _ (by simp),World.cell?_setCell_other _ _ _ _ (by simp),World.cell?_setCell_other _ _ _ _ (by simp),World.cell?_setCell_same' _ _ _ (by rw [g0];rfl)]
 ·rw [World.cell?_setCell_other _ _ _ _ (by simp),World.cell?_setCell_other _ _ _ _ (by simp),World.cell?_setCell_same' _ _ _ (by rw [World.cell?_setCell_other _ _ _ _ (by simp),g1];rfl)]
 ·rw [World.cell?_setCell_other _ _ _ _ (by simp),World.cell?_setCell_same' _ _ _ (by rw [World.cell?_setCell_other _ _ _ _ (by simp),World.cell?_setCell_other _ _ _ _ (by simp),g2];rfl)]
 ·rw [World.cell?_setCell_same' _ _ _ (by rw [World.cell?_setCell_other _ _ _ _ (by simp),World.cell?_setCell_other _ _ _ _ (by simp),World.cell?_setCell_other _ _ _ _ (by simp),g3];rfl)]
theorem zf3 {W:World} {b:Nat} {u0 u1:Value} (v0 v1:Value) (g0:W.cell? ⟨b,0,none⟩=some u0) (g1:W.cell? ⟨b,1,none⟩=some u1) :
  ((W.setCell ⟨b,0,none⟩ v0).setCell ⟨b,1,none⟩ v1).cell? ⟨b,0,none⟩=some v0∧((W.setCell ⟨b,0,none⟩ v0).setCell ⟨b,1,none⟩ v1).cell? ⟨b,1,none⟩=some v1:=by
 refine ⟨?_,?_⟩
 ·rw [World.cell?_setCell_other _ _ _ _ (by simp),World.cell?_setCell_same' _ _ _ (by rw [g0];rfl)]
 ·rw [World.cell?_setCell_same' _ _ _ (by rw [World.cell?_setCell_other _ _ _ _ (by simp),g1];rfl)]
end Go.Proofs.YtjcegdldgjphiaaGreatDoor
namespace Go.Proofs.YtjcegdldgjphiaaGreatDoor
open Go.RowKit Go.Shelf
def N2 (W:World) (b:Nat) (g1:Bool) (A1:Option Addr) (n1 c1:Nat) (g2:Bool) (A2:Option Addr) (n2 c2:Nat):Prop:=
 W.cell? ⟨b,0,none⟩=some (.bool g1)∧W.cell? ⟨b,1,none⟩=some (.slice A1 n1 c1)∧W.cell? ⟨b,2,none⟩=some (.bool g2)∧W.cell? ⟨b,3,none⟩=some (.slice A2 n2 c2)∧b<W.heap.size
theorem N2.via {W W1:World} {b n1 c1 n2 c2:Nat} {g1 g2:Bool} {A1 A2:Option Addr} (h:N2 W b g1 A1 n1 c1 g2 A2 n2 c2) (hb:Below W.heap.size W W1):N2 W1 b g1 A1 n1 c1 g2 A2 n2 c2:=
 ⟨(hb.cell (p:=⟨b,0,none⟩) h.2.2.2.2).trans h.1,(hb.cell (p:=⟨b,1,none⟩) h.2.2.2.2).trans h.2.1,(hb.cell (p:=⟨b,2,none⟩) h.2.2.2.2).trans h.2.2.1,(hb.cell (p:=⟨b,3,none⟩) h.2.2.2.2).trans h.2.2.2.1,Nat.lt_of_lt_of_le h.2.2.2.2 hb.size⟩
theorem zit {g1 g2:Bool} {A1 A2:Option Addr} {n1 c1 n2 c2 b:Nat} {l m:List Nat} {w:World} (hn:N2 w b g1 A1 n1 c1 g2 A2 n2 c2) (h:Sl w w.heap.size A1 n1 c1 l) (h2:Sl w w.heap.size A2 n2 c2 m) :
  Calls Tryz.prog 69 #[.slice (some ⟨b,0,none⟩) 2 2] w fun e w'=>e=.returned (.bool (zw g1 l && zw g2 m))∧Below w.heap.size w w':=by
 have R1:=Lib.hid (fun (W:World) (hW:Below w.heap.size w W)=>zdj g1 A1 n1 c1 w.heap.size l W (h.below hW).1 hW.size h.2.1)
 have R2:=Lib.hid (fun (W:World) (hW:Below w.heap.size w W)=>zdj g2 A2 n2 c2 w.heap.size m W (h2.below hW).1 hW.size h2.2.1)
 have HN:=Lib.hid hn
 obtain ⟨r1,hr1⟩:∃r,zw g1 l=r:=⟨_,rfl⟩
 obtain ⟨r2,hr2⟩:∃r,zw g2 m=r:=⟨_,rfl⟩
 rw [hr1] at R1 ⊢
 rw [hr2] at R2 ⊢
 clear h h2 hn hr1 hr2
 go_enter Tryz.func69,Tryz.ntmps69
 go_wp2_with fail
 go_loopw [7] (fun i W=>∃k:Nat,k≤2∧i=.int .i64 k∧Below w.heap.size w W∧Hid ((0<k→r1=true)∧(1<k→r2=true))) (fun i _=>2 - (intOf i).toNat)
 case atStart=>exact ⟨0,by omega,rfl,Below.refl _ _,Lib.hid ⟨fun h=>by omega,fun h=>by omega⟩⟩
 case round =>
  obtain ⟨k,hk,rfl,hBB,hI⟩:=hrel
  obtain ⟨x0,x1,x2,x3,xz⟩:=HN.out.via hBB
  rcases (show k=0∨k=1∨k=2 by omega) with rfl | rfl | rfl
  ·have hbb:Below w.heap.size w (wr.alloc (.cells #[.bool g1,.slice A1 n1 c1] 30)):=hBB.alloc hBB.size _
   cases r1
   ·go_wp2_with (go_at_call 96;go_loud ((with_reducible refine (R1.out _ hbb).mono ?_);rintro e w1 ⟨rfl,hb⟩))
    go_ret
    exact ⟨rfl,hbb.trans (hb.mono hbb.size)⟩
   ·go_wp2_with (go_at_call 96;go_loud ((with_reducible refine (R1.out _ hbb).mono ?_);rintro e w1 ⟨rfl,hb⟩))
    go_roundw
    case rel=>exact ⟨1,by omega,rfl,hbb.trans (hb.mono hbb.size),Lib.hid ⟨by simp,by simp⟩⟩
    case measure=>simp [intOf]
  ·have hbb:Below w.heap.size w (wr.alloc (.cells #[.bool g2,.slice A2 n2 c2] 30)):=hBB.alloc hBB.size _
   have h1:=hI.out.1 (by omega)
   subst h1
   cases r2
   ·go_wp2_with (go_at_call 96;go_loud ((with_reducible refine (R2.out _ hbb).mono ?_);rintro e w1 ⟨rfl,hb⟩))
    go_ret
    exact ⟨rfl,hbb.trans (hb.mono hbb.size)⟩
   ·go_wp2_with (go_at_call 96;go_loud ((with_reducible refine (R2.out _ hbb).mono ?_);rintro e w1 ⟨rfl,hb⟩))
    go_roundw
    case rel=>exact ⟨2,by omega,rfl,hbb.trans (hb.mono hbb.size),Lib.hid ⟨by simp,by simp⟩⟩
    case measure=>simp [intOf]
  ·have h1:=hI.out.1 (by omega)
   have h2:=hI.out.2 (by omega)
   subst h1 h2
   go_wp2_with fail
   go_ret
   exact ⟨rfl,hBB⟩
end Go.Proofs.YtjcegdldgjphiaaGreatDoor
namespace Go.Proofs.YtjcegdldgjphiaaGreatDoor
open Go.RowKit Go.Shelf
abbrev Raw:=Bool×List Nat
def X (xs:List Raw) (i:Nat):Raw:=xs.getD i (false,[])
def nz (x:Int):Raw:=(decide (x<0),digs x.natAbs)
def FNc (xs:List Raw) (es:List Value) (n:Nat):Pred:=fun v W _=>if 100≤n then v=es.getD (n - 100) (.bool false) else if n%2=0 then v=.bool (X xs (n / 2)).1 else ∃A m c,v=.slice A m c∧Sl W W.heap.size A m c (X xs (n / 2)).2
def FN (xs:List Raw) (es:List Value):Fact:=⟨FNc xs es,fun _ vs _ _=>vs=[]⟩
def nm (i:Nat):List Lf:=[.h (2*i),.h (2*i+1)]
def NM (i:Nat):Sh:=.o (.g (nm i))
def RA (i j:Nat):Sh:=.o (.g (nm i++nm j))
def KN (w0:World):Kit:=⟨fun T=>!([123].contains T),fun k=>match k with
 | .u32=>true
 | .u64=>true
 | _=>false,w0⟩
def IsN (x:Raw) (v:Value) (W:World):Prop:=∃A n c,v=.agg #[.bool x.1,.slice A n c]∧Sl W W.heap.size A n c x.2
def IsR (x y:Raw) (v:Value) (W:World):Prop:=∃A n c A2 n2 c2,v=.agg #[.bool x.1,.slice A n c,.bool y.1,.slice A2 n2 c2]∧Sl W W.heap.size A n c x.2∧Sl W W.heap.size A2 n2 c2 y.2
section
variable {xs:List Raw} {es:List Value} {β:Loc} {W W':World} {v:Value}
theorem Sl.oth {w0:World} {D:Dat} {S:Nat→Prop} {B n c:Nat} {A:Option Addr} {l:List Nat} (hS:∀q,S q→Mlq (KN w0) D W q) (hO:Oth S W W') (h:Sl W B A n c l):Sl W' B A n c l:=by
 refine ⟨⟨⟨h.1.1.1,fun hn=>?_⟩,h.1.2⟩,h.2⟩
 obtain ⟨ad,e,hb,hc⟩:=h.1.1.2 hn
 refine ⟨ad,e,hb,fun j u hj=>?_⟩
 have h1:=hc j u hj
 obtain ⟨d,_,hd⟩:=List.mem_map.1 (List.mem_of_getElem? hj)
 have hlt:(ad.add j).block<W.heap.size:=by
  rcases Nat.lt_or_ge (ad.add j).block W.heap.size with hlt | hlt
  ·exact hlt
  ·simp only [World.cell?,Array.getElem?_eq_none hlt] at h1
   cases h1
 have hn2:¬ S (ad.add j).block:=by
  intro hs
  obtain ⟨_,_,o,ho,hm⟩:=hS _ hs
  simp only [World.cell?,ho] at h1
  cases o with
  | cells cs T z =>
   simp only [ml,mlf,Bool.and_eq_true,List.all_eq_true] at hm
   have hmem:u∈cs.toList:=by
    revert h1
    simp only
    split
    ·intro h1;cases h1
    ·intro h1;simpa using Array.mem_of_getElem? h1
   have:=hm.2 u hmem
   rw [← hd] at this
   cases this
  | _=>simp [ml,mlf] at hm
 have h2:=hO.block _ hlt hn2
 simp only [World.cell?,h2] at h1 ⊢
 exact h1
theorem qU {w0:World} (hes:es.all (KN w0).ck=true):Fine (KN w0) (FN xs es):=by
 refine ⟨fun n=>?_,fun n _=>?_,fun n=>⟨fun _ _ _ h=>h,fun h=>by rw [show _=[] from h];rfl⟩⟩
 ·intro v W W' D D' S hS hO _ h
  change FNc xs es n v W D at h
  show FNc xs es n v W' D'
  unfold FNc at h ⊢
  split at h
  ·rename_i hc
   rw [if_pos hc];exact h
  ·rename_i hc
   rw [if_neg hc]
   split at h
   ·rename_i hc
    rw [if_pos hc];exact h
   ·rename_i hc
    rw [if_neg hc]
    obtain ⟨A,m,c,e,hs⟩:=h
    exact ⟨A,m,c,e,(Sl.oth hS hO hs).more hO.size⟩
 ·intro v W D h
  change FNc xs es n v W D at h
  unfold FNc at h
  split at h
  ·rw [h,List.getD_eq_getElem?_getD]
   cases he:es[n - 100]? with
   | none=>rfl
   | some u=>exact List.all_eq_true.1 hes u (List.mem_of_getElem? he)
  ·split at h
   ·rw [h];rfl
   ·obtain ⟨A,m,c,e,_⟩:=h
    rw [e];rfl
theorem zd5 {i:Nat} (hi:i<50) {vs:List Value} {ls:List Lf}:oks (FN xs es) β (nm i++ls) vs W↔∃A n c us,vs=.bool (X xs i).1::.slice A n c::us∧Sl W W.heap.size A n c (X xs i).2∧oks (FN xs es) β ls us W:=by
 have h0:∀v,FN xs es (2*i) v W β.D↔v=.bool (X xs i).1:=fun v=>by
  show FNc xs es (2*i) v W β.D↔_
  unfold FNc;rw [if_neg (by omega),if_pos (by omega),show 2*i / 2=i by omega]
 have h1:∀v,FN xs es (2*i+1) v W β.D↔∃A m c,v=.slice A m c∧Sl W W.heap.size A m c (X xs i).2:=fun v=>by
  show FNc xs es (2*i+1) v W β.D↔_
  unfold FNc;rw [if_neg (by omega),if_neg (by omega),show (2*i+1) / 2=i by omega]
 constructor
 ·intro h
  match vs,h with
  | v0::v1::us,⟨e0,e1,e2⟩ =>
   obtain ⟨A,m,c,e,hs⟩:=(h1 v1).1 e1
   exact ⟨A,m,c,us,by rw [(h0 v0).1 e0,e],hs,e2⟩
  | [_],⟨_,h⟩=>exact h.elim
  | [],h=>exact h.elim
 ·rintro ⟨A,n,c,us,rfl,hs,h⟩
  exact ⟨(h0 _).2 rfl,(h1 _).2 ⟨A,n,c,rfl,hs⟩,h⟩
theorem zkv {us:List Value} {F:Fact}:oks F β [] us W↔us=[]:=by cases us<;>simp [oks]
theorem NM_is {i:Nat} (hi:i<50):(NM i).ok (FN xs es) β v W↔IsN (X xs i) v W:=by
 constructor
 ·rintro ⟨vs,rfl,h⟩
  rw [show nm i=nm i++[] by simp,zd5 hi] at h
  obtain ⟨A,n,c,us,e,hs,h⟩:=h
  rw [zkv] at h
  subst h
  exact ⟨A,n,c,by rw [← Array.toArray_toList (xs:=vs),e],hs⟩
 ·rintro ⟨A,n,c,rfl,hs⟩
  exact ⟨_,rfl,by rw [show nm i=nm i++[] by simp,zd5 hi];exact ⟨A,n,c,[],rfl,hs,trivial⟩⟩
theorem RA_is {i j:Nat} (hi:i<50) (hj:j<50):(RA i j).ok (FN xs es) β v W↔IsR (X xs i) (X xs j) v W:=by
 constructor
 ·rintro ⟨vs,rfl,h⟩
  rw [zd5 hi,show nm j=nm j++[] by simp] at h
  obtain ⟨A,n,c,us,e,hs,h⟩:=h
  rw [zd5 hj] at h
  obtain ⟨A2,n2,c2,us2,e2,hs2,h⟩:=h
  rw [zkv] at h
  subst h;subst e2
  exact ⟨A,n,c,A2,n2,c2,by rw [← Array.toArray_toList (xs:=vs),e],hs,hs2⟩
 ·rintro ⟨A,n,c,A2,n2,c2,rfl,hs,hs2⟩
  refine ⟨_,rfl,?_⟩
  rw [zd5 hi,show nm j=nm j++[] by simp]
  refine ⟨A,n,c,_,rfl,hs,?_⟩
  rw [zd5 hj]
  exact ⟨A2,n2,c2,[],rfl,hs2,trivial⟩
theorem zt {k:Nat} {u:Value} (h:es.getD k (.bool false)=u):Gives (FN xs es) (.h (100+k)) u:=fun β v W=>by
 subst h
 show FNc xs es (100+k) v W β.D↔_
 unfold FNc
 rw [if_pos (by omega),show 100+k - 100=k by omega]
end
theorem za0 {K:Kit} {P:Program} {F:Fact} {f:FuncId} {ag:List Sh} {res:Sh} (h:∀(β:Loc) (W:World) (vs:List Value),shs F β ag vs W→Below K.w0.heap.size K.w0 W→Calls P f vs.toArray W fun e W'=>∃v,e=.returned v∧res.ok F β v W'∧Below W.heap.size W W'):Con.sound K P F ⟨f,ag,[],res,[]⟩:=by
 refine ⟨rfl,fun β W vs hs _ hg=>(h β W vs hs hg.bel).mono fun e W' hr=>?_⟩
 obtain ⟨v,rfl,h1,h2⟩:=hr
 have hO:Oth (fun _=>False) W W':=Oth.ofBelow h2
 exact ⟨v,β,rfl,h1,hO.mono fun _ h=>h.elim,fun x h=>(by cases h),fun b _=>Loc.same.rfl,fun _ h=>h,fun _ h=>.inl h,fun b h=>(by cases h),hg.mono (fun _ h=>h.elim) hO⟩
def β0:Loc:=⟨fun _=>none,fun _=>(0,0),fun _=>False⟩
theorem ztu {K:Kit} {P:Program} {F:Fact} {f:FuncId} {ag:List Sh} {res:Sh} {W:World} {vs:List Value} (h:Con.sound K P F ⟨f,ag,[],res,[]⟩) (hs:shs F β0 ag vs W) (hw:Below K.w0.heap.size K.w0 W):Calls P f vs.toArray W fun e W'=>∃v β',e=.returned v∧res.ok F β' v W'∧Below W.heap.size W W':=by
 refine (h.2 _ W vs hs (fun x h=>(by cases h)) ⟨fun b q h=>(by cases h),fun b c q h=>(by cases h),hw,fun b q h=>(by cases h),fun q h=>h.elim⟩).mono fun e W' hr=>?_
 obtain ⟨v,β',rfl,hb⟩:=hr
 exact ⟨v,β',rfl,hb.res,hb.oth.below (fun q ⟨b,h,_⟩=>by cases h)⟩
def addX (x y:Raw):Option Int:=sumS x.1 x.2 y.1 y.2 y.1
def subX (x y:Raw):Option Int:=sumS x.1 x.2 y.1 y.2 (!y.1)
def mulX (x y:Raw):Option Int:=mulS x.1 x.2 y.1 y.2
def gcdX (x y:Raw):Option Int:=gcdS x.1 x.2 y.1 y.2
def divX (x y:Raw):Option (Int×Int):=divS x.1 x.2 y.1 y.2
def cmpX (x y:Raw):Int:=cmpS x.1 x.2 y.1 y.2
def zF (x:Raw):Bool:=zw x.1 x.2
section
variable {xs:List Raw} {es:List Value} {w0:World}
theorem zqG {i j k:Nat} {o:Lf} (h:X xs k=nz (vO (addX (X xs i) (X xs j)))) (ho:Gives (FN xs es) o (.bool (okO (addX (X xs i) (X xs j))))) (hi:i<50:=by first | assumption | decide) (hj:j<50:=by first | assumption | decide) (hk:k<50:=by first | assumption | decide):Con.sound (KN w0) Tryz.prog (FN xs es) ⟨113,[NM i,NM j],[],.t [.g (nm k),.c o],[]⟩:=by
 refine za0 fun β W vs hs _=>?_
 match vs,hs with
 | [a,b],⟨ha,hb,_⟩ =>
  obtain ⟨A,n,c,rfl,s1⟩:=(NM_is hi).1 ha
  obtain ⟨A2,n2,c2,rfl,s2⟩:=(NM_is hj).1 hb
  refine (zf6 _ _ s1 s2 (Nat.le_refl _)).mono fun e W' hr=>?_
  obtain ⟨A3,n3,c3,rfl,s3,hb⟩:=hr
  refine ⟨_,rfl,⟨_,rfl,(NM_is hk (v:=.agg #[_,_])).2 ?_,(ho β _ W').2 rfl,trivial⟩,hb⟩
  rw [h]
  exact ⟨A3,n3,c3,rfl,s3⟩
 | [],h=>exact h.elim
 | [_],h=>exact h.2.elim
 | _::_::_::_,h=>exact h.2.2.elim
theorem zqK {i j k:Nat} {o:Lf} (h:X xs k=nz (vO (subX (X xs i) (X xs j)))) (ho:Gives (FN xs es) o (.bool (okO (subX (X xs i) (X xs j))))) (hi:i<50:=by first | assumption | decide) (hj:j<50:=by first | assumption | decide) (hk:k<50:=by first | assumption | decide):Con.sound (KN w0) Tryz.prog (FN xs es) ⟨144,[NM i,NM j],[],.t [.g (nm k),.c o],[]⟩:=by
 refine za0 fun β W vs hs _=>?_
 match vs,hs with
 | [a,b],⟨ha,hb,_⟩ =>
  obtain ⟨A,n,c,rfl,s1⟩:=(NM_is hi).1 ha
  obtain ⟨A2,n2,c2,rfl,s2⟩:=(NM_is hj).1 hb
  refine (znd _ _ s1 s2 (Nat.le_refl _)).mono fun e W' hr=>?_
  obtain ⟨A3,n3,c3,rfl,s3,hb⟩:=hr
  refine ⟨_,rfl,⟨_,rfl,(NM_is hk (v:=.agg #[_,_])).2 ?_,(ho β _ W').2 rfl,trivial⟩,hb⟩
  rw [h]
  exact ⟨A3,n3,c3,rfl,s3⟩
 | [],h=>exact h.elim
 | [_],h=>exact h.2.elim
 | _::_::_::_,h=>exact h.2.2.elim
theorem zqI {i j k:Nat} {o:Lf} (h:X xs k=nz (vO (mulX (X xs i) (X xs j)))) (ho:Gives (FN xs es) o (.bool (okO (mulX (X xs i) (X xs j))))) (hi:i<50:=by first | assumption | decide) (hj:j<50:=by first | assumption | decide) (hk:k<50:=by first | assumption | decide):Con.sound (KN w0) Tryz.prog (FN xs es) ⟨112,[NM i,NM j],[],.t [.g (nm k),.c o],[]⟩:=by
 refine za0 fun β W vs hs _=>?_
 match vs,hs with
 | [a,b],⟨ha,hb,_⟩ =>
  obtain ⟨A,n,c,rfl,s1⟩:=(NM_is hi).1 ha
  obtain ⟨A2,n2,c2,rfl,s2⟩:=(NM_is hj).1 hb
  refine (zm5 _ _ s1 s2 (Nat.le_refl _)).mono fun e W' hr=>?_
  obtain ⟨A3,n3,c3,rfl,s3,hb⟩:=hr
  refine ⟨_,rfl,⟨_,rfl,(NM_is hk (v:=.agg #[_,_])).2 ?_,(ho β _ W').2 rfl,trivial⟩,hb⟩
  rw [h]
  exact ⟨A3,n3,c3,rfl,s3⟩
 | [],h=>exact h.elim
 | [_],h=>exact h.2.elim
 | _::_::_::_,h=>exact h.2.2.elim
theorem c_gcd {i j k:Nat} {o:Lf} (h:X xs k=nz (vO (gcdX (X xs i) (X xs j)))) (ho:Gives (FN xs es) o (.bool (okO (gcdX (X xs i) (X xs j))))) (hi:i<50:=by first | assumption | decide) (hj:j<50:=by first | assumption | decide) (hk:k<50:=by first | assumption | decide):Con.sound (KN w0) Tryz.prog (FN xs es) ⟨72,[NM i,NM j],[],.t [.g (nm k),.c o],[]⟩:=by
 refine za0 fun β W vs hs _=>?_
 match vs,hs with
 | [a,b],⟨ha,hb,_⟩ =>
  obtain ⟨A,n,c,rfl,s1⟩:=(NM_is hi).1 ha
  obtain ⟨A2,n2,c2,rfl,s2⟩:=(NM_is hj).1 hb
  refine (ztB _ _ s1 s2 (Nat.le_refl _)).mono fun e W' hr=>?_
  obtain ⟨A3,n3,c3,rfl,s3,hb⟩:=hr
  refine ⟨_,rfl,⟨_,rfl,(NM_is hk (v:=.agg #[_,_])).2 ?_,(ho β _ W').2 rfl,trivial⟩,hb⟩
  rw [h]
  exact ⟨A3,n3,c3,rfl,s3⟩
 | [],h=>exact h.elim
 | [_],h=>exact h.2.elim
 | _::_::_::_,h=>exact h.2.2.elim
theorem zgs {i j k:Nat} {o:Lf} (h:X xs k=nz (vO (gcdX (X xs i) (X xs j)))) (ho:Gives (FN xs es) o (.bool (okO (gcdX (X xs i) (X xs j))))) (hi:i<50:=by first | assumption | decide) (hj:j<50:=by first | assumption | decide) (hk:k<50:=by first | assumption | decide):Con.sound (KN w0) Tryz.prog (FN xs es) ⟨78,[NM i,NM j],[],.t [.g (nm k),.c o],[]⟩:=by
 refine za0 fun β W vs hs _=>?_
 match vs,hs with
 | [a,b],⟨ha,hb,_⟩ =>
  obtain ⟨A,n,c,rfl,s1⟩:=(NM_is hi).1 ha
  obtain ⟨A2,n2,c2,rfl,s2⟩:=(NM_is hj).1 hb
  refine (zm1 _ _ s1 s2 (Nat.le_refl _)).mono fun e W' hr=>?_
  obtain ⟨A3,n3,c3,rfl,s3,hb⟩:=hr
  refine ⟨_,rfl,⟨_,rfl,(NM_is hk (v:=.agg #[_,_])).2 ?_,(ho β _ W').2 rfl,trivial⟩,hb⟩
  rw [h]
  exact ⟨A3,n3,c3,rfl,s3⟩
 | [],h=>exact h.elim
 | [_],h=>exact h.2.elim
 | _::_::_::_,h=>exact h.2.2.elim
theorem c_cmp {i j:Nat} {o:Lf} (ho:Gives (FN xs es) o (.int .i64 (cmpX (X xs i) (X xs j)))) (hi:i<50:=by first | assumption | decide) (hj:j<50:=by first | assumption | decide):Con.sound (KN w0) Tryz.prog (FN xs es) ⟨70,[NM i,NM j],[],LF o,[]⟩:=by
 refine za0 fun β W vs hs _=>?_
 match vs,hs with
 | [a,b],⟨ha,hb,_⟩ =>
  obtain ⟨A,n,c,rfl,s1⟩:=(NM_is hi).1 ha
  obtain ⟨A2,n2,c2,rfl,s2⟩:=(NM_is hj).1 hb
  refine (ztp _ _ s1 s2 (Nat.le_refl _)).mono fun e W' hr=>?_
  obtain ⟨rfl,hb⟩:=hr
  exact ⟨_,rfl,(ho β _ W').2 rfl,hb⟩
 | [],h=>exact h.elim
 | [_],h=>exact h.2.elim
 | _::_::_::_,h=>exact h.2.2.elim
theorem zaU {i j:Nat} {o:Lf} (ho:Gives (FN xs es) o (.int .i64 (cmpX (X xs i) (X xs j)))) (hi:i<50:=by first | assumption | decide) (hj:j<50:=by first | assumption | decide):Con.sound (KN w0) Tryz.prog (FN xs es) ⟨76,[NM i,NM j],[],LF o,[]⟩:=by
 refine za0 fun β W vs hs _=>?_
 match vs,hs with
 | [a,b],⟨ha,hb,_⟩ =>
  obtain ⟨A,n,c,rfl,s1⟩:=(NM_is hi).1 ha
  obtain ⟨A2,n2,c2,rfl,s2⟩:=(NM_is hj).1 hb
  refine (zmT _ _ s1 s2 (Nat.le_refl _)).mono fun e W' hr=>?_
  obtain ⟨rfl,hb⟩:=hr
  exact ⟨_,rfl,(ho β _ W').2 rfl,hb⟩
 | [],h=>exact h.elim
 | [_],h=>exact h.2.elim
 | _::_::_::_,h=>exact h.2.2.elim
theorem zqH {i j k k2:Nat} {o:Lf} (h:X xs k=nz (dqO (divX (X xs i) (X xs j)))) (h2:X xs k2=nz (drO (divX (X xs i) (X xs j)))) (ho:Gives (FN xs es) o (.bool (divX (X xs i) (X xs j)).isSome)) (hi:i<50:=by first | assumption | decide) (hj:j<50:=by first | assumption | decide) (hk:k<50:=by first | assumption | decide) (hk2:k2<50:=by first | assumption | decide):Con.sound (KN w0) Tryz.prog (FN xs es) ⟨143,[NM i,NM j],[],.t [.g (nm k),.g (nm k2),.c o],[]⟩:=by
 refine za0 fun β W vs hs _=>?_
 match vs,hs with
 | [a,b],⟨ha,hb,_⟩ =>
  obtain ⟨A,n,c,rfl,s1⟩:=(NM_is hi).1 ha
  obtain ⟨A2,n2,c2,rfl,s2⟩:=(NM_is hj).1 hb
  refine (zmX _ _ s1 s2 (Nat.le_refl _)).mono fun e W' hr=>?_
  obtain ⟨A3,n3,c3,A4,n4,c4,rfl,s3,s4,hb⟩:=hr
  refine ⟨_,rfl,⟨_,rfl,(NM_is hk (v:=.agg #[_,_])).2 ?_,(NM_is hk2 (v:=.agg #[_,_])).2 ?_,(ho β _ W').2 rfl,trivial⟩,hb⟩
  ·rw [h]
   exact ⟨A3,n3,c3,rfl,s3⟩
  ·rw [h2]
   exact ⟨A4,n4,c4,rfl,s4⟩
 | [],h=>exact h.elim
 | [_],h=>exact h.2.elim
 | _::_::_::_,h=>exact h.2.2.elim
theorem zwq {i:Nat} {o:Lf} (ho:Gives (FN xs es) o (.bool (zF (X xs i)))) (hi:i<50:=by first | assumption | decide):Con.sound (KN w0) Tryz.prog (FN xs es) ⟨96,[NM i],[],LF o,[]⟩:=by
 refine za0 fun β W vs hs _=>?_
 match vs,hs with
 | [a],⟨ha,_⟩ =>
  obtain ⟨A,n,c,rfl,s1⟩:=(NM_is hi).1 ha
  refine (zdj _ A n c W.heap.size _ W s1.1 (Nat.le_refl _) s1.2.1).mono fun e W' hr=>?_
  obtain ⟨rfl,hb⟩:=hr
  exact ⟨_,rfl,(ho β _ W').2 rfl,hb⟩
 | [],h=>exact h.elim
 | _::_::_,h=>exact h.2.elim
theorem zY {i:Nat} {o:Lf} (ho:Gives (FN xs es) o (.bool (zF (X xs i)))) (hi:i<50:=by first | assumption | decide):Con.sound (KN w0) Tryz.prog (FN xs es) ⟨75,[NM i],[],LF o,[]⟩:=by
 refine za0 fun β W vs hs _=>?_
 match vs,hs with
 | [a],⟨ha,_⟩ =>
  obtain ⟨A,n,c,rfl,s1⟩:=(NM_is hi).1 ha
  refine (zch _ A n c W.heap.size _ W s1.1 (Nat.le_refl _) s1.2.1).mono fun e W' hr=>?_
  obtain ⟨rfl,hb⟩:=hr
  exact ⟨_,rfl,(ho β _ W').2 rfl,hb⟩
 | [],h=>exact h.elim
 | _::_::_,h=>exact h.2.elim
theorem zvc {i:Nat} {o:Lf} (hT:∀W,Below w0.heap.size w0 W→PowT w0.heap.size W) (ho:Gives (FN xs es) o (.string ⟨(textS (X xs i).1 (X xs i).2).toArray⟩)) (hi:i<50:=by first | assumption | decide):Con.sound (KN w0) Tryz.prog (FN xs es) ⟨74,[NM i],[],LF o,[]⟩:=by
 refine za0 fun β W vs hs hw=>?_
 match vs,hs with
 | [a],⟨ha,_⟩ =>
  obtain ⟨A,n,c,rfl,s1⟩:=(NM_is hi).1 ha
  refine (zmb _ s1 (Nat.le_refl _) ((hT W hw).mono hw.size)).mono fun e W' hr=>?_
  obtain ⟨rfl,hb⟩:=hr
  exact ⟨_,rfl,(ho β _ W').2 rfl,hb⟩
 | [],h=>exact h.elim
 | _::_::_,h=>exact h.2.elim
theorem c_of {k:Nat} {a:Lf} {x:Int} (ha:Gives (FN xs es) a (.int .i64 x)) (h0:-9223372036854775808≤x) (h1:x<9223372036854775808) (h:X xs k=nz x) (hk:k<50:=by first | assumption | decide):Con.sound (KN w0) Tryz.prog (FN xs es) ⟨98,[LF a],[],NM k,[]⟩:=by
 refine za0 fun β W vs hs _=>?_
 match vs,hs with
 | [v],⟨hv,_⟩ =>
  have:=(ha β v W).1 hv
  subst this
  refine (zvx x W h0 h1).mono fun e W' hr=>?_
  obtain ⟨A,n,c,rfl,s,hb⟩:=hr
  exact ⟨_,rfl,(NM_is hk).2 (by rw [h];exact ⟨A,n,c,rfl,s⟩),hb⟩
 | [],h=>exact h.elim
 | _::_::_,h=>exact h.2.elim
theorem ztm {k:Nat} {a o:Lf} {s:List UInt8} (hT:∀W,Below w0.heap.size w0 W→PowT w0.heap.size W∧SynT w0.heap.size W) (ha:Gives (FN xs es) a (.string ⟨s.toArray⟩)) (h:X xs k=nz (vO (zp s))) (ho:Gives (FN xs es) o (.bool (okO (zp s)))) (hk:k<50:=by first | assumption | decide):Con.sound (KN w0) Tryz.prog (FN xs es) ⟨109,[LF a],[],.t [.g (nm k),.c o],[]⟩:=by
 refine za0 fun β W vs hs hw=>?_
 match vs,hs with
 | [v],⟨hv,_⟩ =>
  have:=(ha β v W).1 hv
  subst this
  refine (zpg s W hw.size (hT W hw).1 (hT W hw).2).mono fun e W' hr=>?_
  obtain ⟨A,n,c,rfl,s,hb⟩:=hr
  exact ⟨_,rfl,⟨_,rfl,(NM_is hk (v:=.agg #[_,_])).2 (by rw [h];exact ⟨A,n,c,rfl,s⟩),(ho β _ W').2 rfl,trivial⟩,hb⟩
 | [],h=>exact h.elim
 | _::_::_,h=>exact h.2.elim
end
end Go.Proofs.YtjcegdldgjphiaaGreatDoor
namespace Go.Proofs.YtjcegdldgjphiaaGreatDoor
open Go.RowKit Go.Shelf
theorem tr {K:Kit} {P:Program} {F F':Fact} {f:FuncId} {ag ag':List Sh} {res res':Sh} (h:Con.sound K P F' ⟨f,ag',[],res',[]⟩) (ha:∀β vs W,shs F β ag vs W→shs F' β0 ag' vs W) (hr:∀β β' v W,res'.ok F' β' v W→res.ok F β v W):Con.sound K P F ⟨f,ag,[],res,[]⟩ :=
 za0 fun β W _ hs hw=>(ztu h (ha β _ W hs) hw).mono fun _ _ ⟨v,β',e,h1,h2⟩=>⟨v,e,hr β β' v _ h1,h2⟩
section
variable {F F':Fact} {β β':Loc} {W:World}
theorem sh0:∀(β:Loc) vs W,shs F β [] vs W→shs F' β0 [] vs W
 | _,[],_,_=>trivial
 | _,_::_,_,h=>h.elim
theorem sh1 {a a':Sh} (h:∀β v W,a.ok F β v W→a'.ok F' β0 v W):∀(β:Loc) vs W,shs F β [a] vs W→shs F' β0 [a'] vs W
 | _,[_],_,hs=>⟨h _ _ _ hs.1,trivial⟩
 | _,[],_,h=>h.elim
 | _,_::_::_,_,h=>h.2.elim
theorem sh2 {a a' b b':Sh} (h:∀β v W,a.ok F β v W→a'.ok F' β0 v W) (h2:∀β v W,b.ok F β v W→b'.ok F' β0 v W):∀(β:Loc) vs W,shs F β [a,b] vs W→shs F' β0 [a',b'] vs W
 | _,[_,_],_,hs=>⟨h _ _ _ hs.1,h2 _ _ _ hs.2.1,trivial⟩
 | _,[],_,h=>h.elim
 | _,[_],_,h=>h.2.elim
 | _,_::_::_::_,_,h=>h.2.2.elim
end
section
variable {xs xs':List Raw} {es es':List Value} {w0:World} {i j k l i' j' k' l':Nat}
theorem NM_mv (h:X xs' i'=X xs i) (hi:i<50:=by first | assumption | decide) (hi':i'<50:=by first | assumption | decide):∀β v W,(NM i).ok (FN xs es) β v W→(NM i').ok (FN xs' es') β0 v W:=fun _ _ _ hv=>by
 rw [NM_is hi] at hv;rw [NM_is hi',h];exact hv
theorem NM_bk (h:X xs' i'=X xs i) (hi:i<50:=by first | assumption | decide) (hi':i'<50:=by first | assumption | decide):∀β β' v W,(NM i').ok (FN xs' es') β' v W→(NM i).ok (FN xs es) β v W:=fun _ _ _ _ hv=>by
 rw [NM_is hi',h] at hv;rw [NM_is hi];exact hv
theorem RA_mv (h:X xs' i'=X xs i) (h2:X xs' j'=X xs j) (hi:i<50:=by first | assumption | decide) (hj:j<50:=by first | assumption | decide) (hi':i'<50:=by first | assumption | decide) (hj':j'<50:=by first | assumption | decide):∀β v W,(RA i j).ok (FN xs es) β v W→(RA i' j').ok (FN xs' es') β0 v W:=fun _ _ _ hv=>by
 rw [RA_is hi hj] at hv;rw [RA_is hi' hj',h,h2];exact hv
theorem RA_bk (h:X xs' i'=X xs i) (h2:X xs' j'=X xs j) (hi:i<50:=by first | assumption | decide) (hj:j<50:=by first | assumption | decide) (hi':i'<50:=by first | assumption | decide) (hj':j'<50:=by first | assumption | decide):∀β β' v W,(RA i' j').ok (FN xs' es') β' v W→(RA i j).ok (FN xs es) β v W:=fun _ _ _ _ hv=>by
 rw [RA_is hi' hj',h,h2] at hv;rw [RA_is hi hj];exact hv
theorem LF_mv {F F':Fact} {L L':Lf} {u:Value} (hL:Gives F L u) (hL':Gives F' L' u):∀(β:Loc) v W,(LF L).ok F β v W→(LF L').ok F' β0 v W:=fun β v W hv=>(hL' _ v W).2 ((hL β v W).1 hv)
theorem LF_bk {F F':Fact} {L L':Lf} {u:Value} (hL:Gives F L u) (hL':Gives F' L' u):∀(β β':Loc) v W,(LF L').ok F' β' v W→(LF L).ok F β v W:=fun β β' v W hv=>(hL β v W).2 ((hL' β' v W).1 hv)
theorem T2_bk {F F':Fact} {a b a' b':Cm} (h:∀(β β':Loc) v W,(Sh.o a').ok F' β' v W→(Sh.o a).ok F β v W) (h2:∀(β β':Loc) v W,(Sh.o b').ok F' β' v W→(Sh.o b).ok F β v W):∀(β β':Loc) v W,(Sh.t [a',b']).ok F' β' v W→(Sh.t [a,b]).ok F β v W:=by
 rintro β β' v W ⟨vs,rfl,hs⟩
 refine ⟨vs,rfl,?_⟩
 match vs.toList,hs with
 | [x,y],⟨h1,h3,_⟩=>exact ⟨h β β' x W h1,h2 β β' y W h3,trivial⟩
 | [],h=>exact h.elim
 | [_],h=>exact h.2.elim
 | _::_::_::_,h=>exact h.2.2.elim
end
theorem c_bin {K:Kit} {P:Program} {F:Fact} {op:BinOp} {T:TypeId} {x y o:Lf} {k:IntKind} {a b:Int} {r:Bool} (hx:Gives F x (.int k a)) (hy:Gives F y (.int k b)) (hr:binK op a b=some r) (ho:Gives F o (.bool r)):Ent.sound K P F (.bin op T (LF x) (LF y) (LF o)):=by
 intro β W vx vy h1 h2
 rw [(hx β vx W).1 h1,(hy β vy W).1 h2]
 exact ⟨.bool r,fun X Y=>zjT hr T X Y,(ho β _ W).2 rfl⟩
theorem c_fb {K:Kit} {P:Program} {F:Fact} {n:Nat} {b:Bool} (h:Gives F (.h n) (.bool b)):Ent.sound K P F (.fb n b):=fun v W D hv=>(h ⟨fun _=>none,fun _=>(0,0),D⟩ v W).1 hv
end Go.Proofs.YtjcegdldgjphiaaGreatDoor
namespace Go.Proofs.YtjcegdldgjphiaaGreatDoor
open Go.RowKit Go.Shelf
section
variable {x y:Int}
theorem zdi (hx:x.natAbs<big):zF (nz x)=true:=(Rt.of x hx).right
theorem ztd (hx:x.natAbs<big) (hy:y.natAbs<big):addX (nz x) (nz y)=fitO (x+y):=by
 show sumS (decide (x<0)) (digs x.natAbs) (decide (y<0)) (digs y.natAbs) (decide (y<0))=_
 unfold sumS;rw [if_pos ⟨(Rt.of x hx).right,(Rt.of y hy).right⟩,zn,zn,zaC,zaC]
theorem zuJ (hx:x.natAbs<big) (hy:y.natAbs<big):subX (nz x) (nz y)=fitO (x - y):=by
 show sumS (decide (x<0)) (digs x.natAbs) (decide (y<0)) (digs y.natAbs) (!decide (y<0))=_
 unfold sumS;rw [if_pos ⟨(Rt.of x hx).right,(Rt.of y hy).right⟩,zn,zn,zaC,zuB,Int.sub_eq_add_neg]
theorem ztP (hx:x.natAbs<big) (hy:y.natAbs<big):mulX (nz x) (nz y)=fitO (x*y):=by
 show mulS (decide (x<0)) (digs x.natAbs) (decide (y<0)) (digs y.natAbs)=_
 unfold mulS;rw [if_pos ⟨(Rt.of x hx).right,(Rt.of y hy).right⟩,zn,zn,zaC,zaC]
theorem zdK (hx:x.natAbs<big) (hy:y.natAbs<big):gcdX (nz x) (nz y)=some ((Nat.gcd x.natAbs y.natAbs:Nat):Int):=by
 show gcdS (decide (x<0)) (digs x.natAbs) (decide (y<0)) (digs y.natAbs)=_
 unfold gcdS;rw [if_pos ⟨(Rt.of x hx).right,(Rt.of y hy).right⟩,zn,zn]
 exact zc4 (by simpa using zgX hx hy)
theorem zgB (hx:x.natAbs<big) (hy:y.natAbs<big) (h0:y≠0):divX (nz x) (nz y)=some (x / y,x%y):=by
 show divS (decide (x<0)) (digs x.natAbs) (decide (y<0)) (digs y.natAbs)=_
 unfold divS;rw [if_pos ⟨(Rt.of x hx).right,(Rt.of y hy).right,fun e=>h0 (by have:=zcu.1 e;omega)⟩,zn,zn,zaC,zaC]
theorem zdy (hx:x.natAbs<big) (hy:y.natAbs<big):cmpX (nz x) (nz y)=cmpI x y:=by
 show cmpS (decide (x<0)) (digs x.natAbs) (decide (y<0)) (digs y.natAbs)=_
 unfold cmpS;rw [if_pos ⟨(Rt.of x hx).right,(Rt.of y hy).right⟩,zn,zn,zaC,zaC]
theorem nz_v:sgn (nz x).1 (nval (nz x).2)=x:=by
 show sgn (decide (x<0)) (nval (digs x.natAbs))=x
 rw [zn,zaC]
theorem nz_a:nval (nz x).2=x.natAbs:=zn _
theorem zf5 {x:Raw} (h:zF x=true) (hd:Dig x.2):∃a:Int,x=nz a∧a.natAbs<big:=by
 obtain ⟨g,l⟩:=x
 obtain ⟨hc,hl,h0⟩:=zC h hd
 refine ⟨sgn g (nval l),?_,by rw [qA];exact (qg hc).1 hl⟩
 unfold nz
 rw [qA,← zbm hc]
 congr 1
 cases g
 ·simp [sgn]
 ·have:nval l≠0:=fun h=>by have:=h0 (qD hc h);cases this
  simp [sgn];omega
theorem qF {x:Int} (h:x.natAbs≤18446744073709551616):x.natAbs<big:=(Rt.small h).2
def vX (x:Raw):Int:=sgn x.1 (nval x.2)
theorem vX_nz:vX (nz x)=x:=nz_v
def qX (x y:Raw):Option Rat:=ratOf x.1 x.2 y.1 y.2
def rrX (x y:Raw):Bool:=zvR x.1 x.2 y.1 y.2
theorem zl6 (a b:Raw):rrX a b=(zF a && (zF b && (decide (0<vX b) && decide (Nat.gcd (nval a.2) (nval b.2)=1)))):=rfl
theorem zpF (hx:x.natAbs<big) (hy:y.natAbs<big):rrX (nz x) (nz y)=(decide (0<y) && decide (Nat.gcd x.natAbs y.natAbs=1)):=by
 rw [zl6,zdi hx,zdi hy,vX_nz,nz_a,nz_a,Bool.true_and,Bool.true_and]
theorem rrX_q {q:Rat} (h:q.num.natAbs<big) (h2:q.den<big):rrX (nz q.num) (nz (q.den:Int))=true:=by
 rw [zpF h (by simpa using h2)]
 have:=q.den_nz
 simp only [Bool.and_eq_true,decide_eq_true_eq]
 exact ⟨by omega,by simpa using q.reduced⟩
def ofX (x y:Raw):Option Rat:=if (zF x && zF y)=true then ofR (vX x) (vX y) else none
theorem zlP (hx:x.natAbs<big) (hy:y.natAbs<big):ofX (nz x) (nz y)=ofR x y:=by
 unfold ofX;rw [if_pos (by rw [zdi hx,zdi hy];rfl),vX_nz,vX_nz]
end
section
variable {K:Kit} {P:Program} {F:Fact} {xs:List Raw} {es:List Value} {w0:World} {f:FuncId} {res:Sh} {i j k l:Nat}
theorem dgN2 (h:Dig (X xs i).2→Dig (X xs j).2→Con.sound K P (FN xs es) ⟨f,[NM i,NM j],[],res,[]⟩) (hi:i<50:=by first | assumption | decide) (hj:j<50:=by first | assumption | decide):Con.sound K P (FN xs es) ⟨f,[NM i,NM j],[],res,[]⟩:=by
 refine ⟨rfl,fun β W vs hs=>?_⟩
 match vs,hs with
 | [a,b],hs =>
  obtain ⟨A,n,c,_,s1⟩:=(NM_is hi).1 hs.1
  obtain ⟨A,n,c,_,s2⟩:=(NM_is hj).1 hs.2.1
  exact (h s1.dig s2.dig).2 β W [a,b] hs
 | [],h=>exact h.elim
 | [_],h=>exact h.2.elim
 | _::_::_::_,h=>exact h.2.2.elim
theorem dgR1 (h:Dig (X xs i).2→Dig (X xs j).2→Con.sound K P (FN xs es) ⟨f,[RA i j],[],res,[]⟩) (hi:i<50:=by first | assumption | decide) (hj:j<50:=by first | assumption | decide):Con.sound K P (FN xs es) ⟨f,[RA i j],[],res,[]⟩:=by
 refine ⟨rfl,fun β W vs hs=>?_⟩
 match vs,hs with
 | [a],hs =>
  obtain ⟨A,n,c,_,_,_,_,s1,s2⟩:=(RA_is hi hj).1 hs.1
  exact (h s1.dig s2.dig).2 β W [a] hs
 | [],h=>exact h.elim
 | _::_::_,h=>exact h.2.elim
def ZC:List Lf:=[.k (.bool false),.k (.slice none 0 0),.k (.bool false),.k (.slice none 0 0)]
theorem zoY:nz 0=(false,[]):=by unfold nz;rw [show Int.natAbs 0=0 from rfl,zx];rfl
theorem ZR_bk {F':Fact} (h:X xs i=nz 0) (h2:X xs j=nz 0) (hi:i<50:=by first | assumption | decide) (hj:j<50:=by first | assumption | decide):∀(β β':Loc) v W,(Sh.o (.g ZC)).ok F' β' v W→(RA i j).ok (FN xs es) β v W:=by
 rintro β β' v W ⟨vs,rfl,hs⟩
 rw [RA_is hi hj,h,h2,zoY]
 refine ⟨none,0,0,none,0,0,?_,Sl.none_,Sl.none_⟩
 rw [← Array.toArray_toList (xs:=vs)]
 match vs.toList,hs with
 | [a,b,c,d],⟨h1,h2,h3,h4,_⟩ =>
  rw [show a=_ from h1,show b=_ from h2,show c=_ from h3,show d=_ from h4]
 | [],h=>exact h.elim
 | [_],h=>exact h.2.elim
 | [_,_],h=>exact h.2.2.elim
 | [_,_,_],h=>exact h.2.2.2.elim
 | _::_::_::_::_::_,h=>exact h.2.2.2.2.elim
end
theorem mixed:Tryz.prog.follows .mixedOrders=true:=by kernel_rfl
end Go.Proofs.YtjcegdldgjphiaaGreatDoor
namespace Go.Proofs.YtjcegdldgjphiaaGreatDoor
open Go.RowKit Go.Shelf
theorem zps (x:Int) (w:World) (h0:-9223372036854775808≤x) (h1:x<9223372036854775808):Calls Tryz.prog 65 #[.int .i64 x] w (RetA x w):=by
 have m0:MX w [(#[.bool false,.slice none 0 0],30)] (w.alloc (.cells #[.bool false,.slice none 0 0] 30)):=MX.start
 obtain ⟨v,hv⟩:∃v,x.natAbs=v:=⟨_,rfl⟩
 have hvl:v<18446744073709551616:=by omega
 have hxb:x.natAbs<big:=(Rt.small (show x.natAbs≤18446744073709551616 by omega)).2
 have e9:fitO (sgn (decide (x<0)) v)=some x:=by rw [← hv,zaC,zc4 hxb]
 have DI:=Lib.hid (fun (W:World)=>zbU v W hvl)
 have SI:=Lib.hid (fun (W:World) (A:Option Addr) (n c:Nat) (hs:Sl W W.heap.size A n c (digs v))=>qd A n c W.heap.size v (decide (x<0)) _ W hs (Nat.le_refl _) (zn v))
 rw [e9] at SI
 rcases Int.lt_or_le x 0 with hn | hn
 ·have hd:decide (x<0)=true:=decide_eq_true hn
  have e1:IntKind.u64.wrap (-IntKind.u64.wrap x)=(v:Int):=by rw [IntKind.wrap_u64,IntKind.wrap_u64];omega
  rw [hd] at SI
  clear e9
  go_enter Tryz.func65,Tryz.ntmps65
  go_wp2_with (first
   | (go_at_call 91;go_loud ((first | rw [e1] | skip);refine (DI.out _).mono ?_;rintro e w1 ⟨A,n,c,rfl,hs,hb⟩;have m1:=m0.via hb))
   | (go_at_call 90;go_loud ((with_reducible refine (SI.out _ _ _ _ hs).mono ?_);rintro e w2 hr;obtain ⟨A2,n2,c2,rfl,hs2,hb2⟩:=zae hr;have m2:=m1.via hb2;have r0:w2.cell? ⟨w.heap.size,0,none⟩=some (.bool false):=m2.cell (i:=0) rfl rfl;have r1:w2.cell? ⟨w.heap.size,1,none⟩=some (.slice none 0 0):=m2.cell (i:=0) rfl rfl;have rf:∀j,w2.frozen? ⟨w.heap.size,j,none⟩=false:=(fun j=>m2.frozen (i:=0) rfl j);have rz:w.heap.size<w2.heap.size:=m2.lt (i:=0) (by simp)))
   | fail "no arm")
  obtain ⟨q0,q1⟩:=zf3 (.bool true) (.slice A2 n2 c2) r0 r1
  have s3:=hs2.stored r0 r1 (.bool true) (.slice A2 n2 c2)
  have b3:=(m2.below.setCell (p:=⟨w.heap.size,0,none⟩) (Nat.le_refl _) (.bool true)).setCell (p:=⟨w.heap.size,1,none⟩) (Nat.le_refl _) (.slice A2 n2 c2)
  have hz3:w.heap.size<((w2.setCell ⟨w.heap.size,0,none⟩ (.bool true)).setCell ⟨w.heap.size,1,none⟩ (.slice A2 n2 c2)).heap.size:=by simp [World.setCell];omega
  obtain ⟨W3,hW3⟩:∃W3,(w2.setCell ⟨w.heap.size,0,none⟩ (.bool true)).setCell ⟨w.heap.size,1,none⟩ (.slice A2 n2 c2)=W3:=⟨_,rfl⟩
  rw [hW3] at q0 q1 s3 b3 hz3 ⊢
  have k0:=(World.cell?_alloc_lt W3 (.cells #[.bool true,.slice A2 n2 c2] 30) ⟨w.heap.size,0,none⟩ hz3).trans q0
  have k1:=(World.cell?_alloc_lt W3 (.cells #[.bool true,.slice A2 n2 c2] 30) ⟨w.heap.size,1,none⟩ hz3).trans q1
  refine bodyPost_ret (v:=.agg #[.bool true,.slice A2 n2 c2]) ?_ rfl ⟨A2,n2,c2,by rw [hd],s3.via ((Below.refl _ _).alloc (Nat.le_refl _) _),b3.alloc b3.size _⟩
  clear k0 k1
  simp [results,Tryz.f65,go_sem,q0,q1,hz3]
 ·have hd:decide (x<0)=false:=decide_eq_false (by omega)
  have e1:IntKind.u64.wrap x=(v:Int):=by rw [IntKind.wrap_u64];omega
  have hn2:¬ x<0:=by omega
  rw [hd] at SI
  clear e9
  go_enter Tryz.func65,Tryz.ntmps65
  go_wp2_with (first
   | (go_at_call 91;go_loud ((first | rw [e1] | skip);refine (DI.out _).mono ?_;rintro e w1 ⟨A,n,c,rfl,hs,hb⟩;have m1:=m0.via hb))
   | (go_at_call 90;go_loud ((with_reducible refine (SI.out _ _ _ _ hs).mono ?_);rintro e w2 hr;obtain ⟨A2,n2,c2,rfl,hs2,hb2⟩:=zae hr;have m2:=m1.via hb2;have r0:w2.cell? ⟨w.heap.size,0,none⟩=some (.bool false):=m2.cell (i:=0) rfl rfl;have r1:w2.cell? ⟨w.heap.size,1,none⟩=some (.slice none 0 0):=m2.cell (i:=0) rfl rfl;have rf:∀j,w2.frozen? ⟨w.heap.size,j,none⟩=false:=(fun j=>m2.frozen (i:=0) rfl j);have rz:w.heap.size<w2.heap.size:=m2.lt (i:=0) (by simp)))
   | fail "no arm")
  obtain ⟨q0,q1⟩:=zf3 (.bool false) (.slice A2 n2 c2) r0 r1
  have s3:=hs2.stored r0 r1 (.bool false) (.slice A2 n2 c2)
  have b3:=(m2.below.setCell (p:=⟨w.heap.size,0,none⟩) (Nat.le_refl _) (.bool false)).setCell (p:=⟨w.heap.size,1,none⟩) (Nat.le_refl _) (.slice A2 n2 c2)
  have hz3:w.heap.size<((w2.setCell ⟨w.heap.size,0,none⟩ (.bool false)).setCell ⟨w.heap.size,1,none⟩ (.slice A2 n2 c2)).heap.size:=by simp [World.setCell];omega
  obtain ⟨W3,hW3⟩:∃W3,(w2.setCell ⟨w.heap.size,0,none⟩ (.bool false)).setCell ⟨w.heap.size,1,none⟩ (.slice A2 n2 c2)=W3:=⟨_,rfl⟩
  rw [hW3] at q0 q1 s3 b3 hz3 ⊢
  have k0:=(World.cell?_alloc_lt W3 (.cells #[.bool false,.slice A2 n2 c2] 30) ⟨w.heap.size,0,none⟩ hz3).trans q0
  have k1:=(World.cell?_alloc_lt W3 (.cells #[.bool false,.slice A2 n2 c2] 30) ⟨w.heap.size,1,none⟩ hz3).trans q1
  refine bodyPost_ret (v:=.agg #[.bool false,.slice A2 n2 c2]) ?_ rfl ⟨A2,n2,c2,by rw [hd],s3.via ((Below.refl _ _).alloc (Nat.le_refl _) _),b3.alloc b3.size _⟩
  clear k0 k1
  simp [results,Tryz.f65,go_sem,q0,q1,hz3]
end Go.Proofs.YtjcegdldgjphiaaGreatDoor
namespace Go.Proofs.YtjcegdldgjphiaaGreatDoor
open Go.RowKit Go.Shelf
theorem zwp {w0:World} :Con.sound (KN w0) Tryz.prog (FN [nz 0] []) ⟨71,[],[],NM 0,[]⟩ :=
 zr (C:=[(1,.call ⟨98,[LF (.k (.int .i64 0))],[],NM 0,[]⟩)]) 0 (qU rfl) ⟨c_of ze (by decide) (by decide) rfl,trivial⟩ mixed (by kernel_rfl)
theorem zsD {xs:List Raw} {es:List Value} {w0:World} {k:Nat} (h:X xs k=nz 0) (hk:k<50:=by first | assumption | decide):Con.sound (KN w0) Tryz.prog (FN xs es) ⟨71,[],[],NM k,[]⟩:=tr zwp sh0 (NM_bk h.symm)
theorem one_p {w0:World} :Con.sound (KN w0) Tryz.prog (FN [nz 1] []) ⟨73,[],[],NM 0,[]⟩ :=
 zr (C:=[(1,.call ⟨98,[LF (.k (.int .i64 1))],[],NM 0,[]⟩)]) 0 (qU rfl) ⟨c_of ze (by decide) (by decide) rfl,trivial⟩ mixed (by kernel_rfl)
theorem c_one {xs:List Raw} {es:List Value} {w0:World} {k:Nat} (h:X xs k=nz 1) (hk:k<50:=by first | assumption | decide):Con.sound (KN w0) Tryz.prog (FN xs es) ⟨73,[],[],NM k,[]⟩:=tr one_p sh0 (NM_bk h.symm)
theorem zob {xs:List Raw} {es:List Value} {w0:World} {k:Nat} {a:Lf} {x:Int} (ha:Gives (FN xs es) a (.int .i64 x)) (h0:-9223372036854775808≤x) (h1:x<9223372036854775808) (h:X xs k=nz x) (hk:k<50:=by first | assumption | decide):Con.sound (KN w0) Tryz.prog (FN xs es) ⟨65,[LF a],[],NM k,[]⟩:=by
 refine za0 fun β W vs hs _=>?_
 match vs,hs with
 | [v],⟨hv,_⟩ =>
  have:=(ha β v W).1 hv
  subst this
  refine (zps x W h0 h1).mono fun e W' hr=>?_
  obtain ⟨A,n,c,rfl,s,hb⟩:=hr
  exact ⟨_,rfl,(NM_is hk).2 (by rw [h];exact ⟨A,n,c,rfl,s⟩),hb⟩
 | [],h=>exact h.elim
 | _::_::_,h=>exact h.2.elim
theorem zu5 {w0:World} (x:Int) (h0:-9223372036854775808≤x) (h1:x<9223372036854775808):Con.sound (KN w0) Tryz.prog (FN [nz x] [.int .i64 x]) ⟨77,[yh 100],[],NM 0,[]⟩ :=
 zr (C:=[(4,.call ⟨65,[yh 100],[],NM 0,[]⟩)]) 0 (qU rfl) ⟨zob (zt (k:=0) rfl) h0 h1 rfl,trivial⟩ mixed (by kernel_rfl)
theorem zbk {xs:List Raw} {es:List Value} {w0:World} {k:Nat} {a:Lf} {x:Int} (ha:Gives (FN xs es) a (.int .i64 x)) (h0:-9223372036854775808≤x) (h1:x<9223372036854775808) (h:X xs k=nz x) (hk:k<50:=by first | assumption | decide):Con.sound (KN w0) Tryz.prog (FN xs es) ⟨77,[LF a],[],NM k,[]⟩:=tr (zu5 x h0 h1) (sh1 (LF_mv ha (zt (k:=0) rfl))) (NM_bk h.symm)
theorem zmK {w0:World} (x:Raw):Con.sound (KN w0) Tryz.prog (FN [x,nz 0,nz (vO (subX (nz 0) x))] [.bool (okO (subX (nz 0) x))]) ⟨115,[NM 0],[],NM 2,[]⟩ :=
 zr (C:=[(6,.call ⟨77,[LF (.k (.int .i64 0))],[],NM 1,[]⟩),
  (8,.call ⟨144,[NM 1,NM 0],[],.t [.g (nm 2),.c (.h 100)],[]⟩)]) 0 (qU rfl) ⟨zbk ze (by decide) (by decide) rfl,zqK rfl (zt (k:=0) rfl),trivial⟩ mixed (by kernel_rfl)
theorem zfM {xs:List Raw} {es:List Value} {w0:World} {i k:Nat} (h:X xs k=nz (vO (subX (nz 0) (X xs i)))) (hi:i<50:=by first | assumption | decide) (hk:k<50:=by first | assumption | decide):Con.sound (KN w0) Tryz.prog (FN xs es) ⟨115,[NM i],[],NM k,[]⟩:=tr (zmK (X xs i)) (sh1 (NM_mv rfl)) (NM_bk h.symm)
theorem zpt {w0:World} (x y:Raw):Con.sound (KN w0) Tryz.prog (FN [x,y,nz (dqO (divX x y)),nz (drO (divX x y))] [.bool (divX x y).isSome]) ⟨114,[NM 0,NM 1],[],NM 2,[]⟩ :=
 zr (C:=[(11,.call ⟨143,[NM 0,NM 1],[],.t [.g (nm 2),.g (nm 3),.c (.h 100)],[]⟩)]) 0 (qU rfl) ⟨zqH rfl rfl (zt (k:=0) rfl),trivial⟩ mixed (by kernel_rfl)
theorem zcY {xs:List Raw} {es:List Value} {w0:World} {i j k:Nat} (h:X xs k=nz (dqO (divX (X xs i) (X xs j)))) (hi:i<50:=by first | assumption | decide) (hj:j<50:=by first | assumption | decide) (hk:k<50:=by first | assumption | decide):Con.sound (KN w0) Tryz.prog (FN xs es) ⟨114,[NM i,NM j],[],NM k,[]⟩:=tr (zpt (X xs i) (X xs j)) (sh2 (NM_mv rfl) (NM_mv rfl)) (NM_bk h.symm)
theorem zgt {xs:List Raw} {es:List Value} {w0:World} {b i j:Nat} {o:Lf} (hes:es.all (KN w0).ck=true) (ho:Gives (FN xs es) o (.bool (zF (X xs i) && zF (X xs j)))) (hi:i<50:=by first | assumption | decide) (hj:j<50:=by first | assumption | decide):Con.sound (KN w0) Tryz.prog (FN xs es) ⟨69,[LF (.s b 0 2 2)],[.bx b 30 (nm i++nm j)],LF o,[.bx b 30 (nm i++nm j)]⟩:=by
 refine ⟨rfl,fun β W vs hs hb hg=>?_⟩
 match vs,hs with
 | [v],⟨⟨q,hq,hv⟩,_⟩ =>
  subst hv
  have hbox:=hb _ (List.mem_cons_self ..)
  have hbox2:=hbox
  obtain ⟨q',cs,hq',hh,hl,_,_,_⟩:=hbox2
  have e:q'=q:=by rw [hq] at hq';exact (Option.some.inj hq').symm
  subst e
  rw [zd5 hi,show nm j=nm j++[] by simp] at hl
  obtain ⟨A,n,c,us,e1,s1,hl⟩:=hl
  rw [zd5 hj] at hl
  obtain ⟨A2,n2,c2,us2,e2,s2,hl⟩:=hl
  rw [zkv] at hl
  subst hl;subst e2
  have hc:∀k u,cs.toList[k]?=some u→W.cell? ⟨q',k,none⟩=some u:=fun k u hu=>by rw [zao hh];simpa using hu
  rw [e1] at hc
  refine (zit ⟨hc 0 _ rfl,hc 1 _ rfl,hc 2 _ rfl,hc 3 _ rfl,hg.lt b q' hq⟩ s1 s2).mono fun e W' hr=>?_
  obtain ⟨rfl,hbl⟩:=hr
  have hO:Oth (fun _=>False) W W':=Oth.ofBelow hbl
  refine ⟨_,β,rfl,(ho β _ W').2 rfl,hO.mono fun _ h=>h.elim,fun x hx=>?_,fun b _=>Loc.same.rfl,fun _ h=>h,fun _ h=>.inl h,fun b h=>(by cases h),hg.mono (fun _ h=>h.elim) hO⟩
  rw [List.mem_singleton] at hx
  subst hx
  exact Box.mv (qU hes) (fun _ h=>h.elim) hO (fun _ h=>h) (fun _ _=>Loc.same.rfl) hbox (fun _ _ h=>h.elim)
 | [],h=>exact h.elim
 | _::_::_,h=>exact h.2.elim
theorem zrK {w0:World} (x y:Raw) (h:(zF x && zF y)=false):Con.sound (KN w0) Tryz.prog (FN [x,y] [.bool (zF x && zF y)]) ⟨46,[RA 0 1],[],LF (.k (.bool false)),[]⟩ :=
 zr (C:=[(10,.call ⟨69,[LF (.s 6 0 2 2)],[.bx 6 30 (nm 0++nm 1)],yh 100,[.bx 6 30 (nm 0++nm 1)]⟩),
  (10100,.fb 100 false)]) 0 (qU rfl) ⟨zgt rfl (zt (k:=0) rfl),c_fb (zt (k:=0) (congrArg Value.bool h)),trivial⟩ mixed (by kernel_rfl)
theorem zrL {w0:World} (x y:Raw) (h:(zF x && zF y)=true) (h2:decide (cmpX y (nz 0)≤0)=true):Con.sound (KN w0) Tryz.prog (FN [x,y,nz 0] [.bool (zF x && zF y),.int .i64 (cmpX y (nz 0))]) ⟨46,[RA 0 1],[],LF (.k (.bool false)),[]⟩ :=
 zr (C:=[(10,.call ⟨69,[LF (.s 6 0 2 2)],[.bx 6 30 (nm 0++nm 1)],yh 100,[.bx 6 30 (nm 0++nm 1)]⟩),
  (10100,.fb 100 true),
  (15,.call ⟨71,[],[],NM 2,[]⟩),
  (16,.call ⟨70,[NM 1,NM 2],[],yh 101,[]⟩),
  (17,.bin .leq 3 (yh 101) (LF (.k (.int .i64 0))) (LF (.k (.bool true))))]) 0 (qU rfl) ⟨zgt rfl (zt (k:=0) rfl),c_fb (zt (k:=0) (congrArg Value.bool h)),zsD rfl,c_cmp (zt (k:=1) rfl),c_bin (zt (k:=1) rfl) ze (congrArg some h2) ze,trivial⟩ mixed (by kernel_rfl)
theorem zrM {w0:World} (x y:Raw) (h:(zF x && zF y)=true) (h2:decide (cmpX y (nz 0)≤0)=false):Con.sound (KN w0) Tryz.prog (FN [x,y,nz 0,nz (vO (gcdX x y)),nz 1] [.bool (zF x && zF y),.int .i64 (cmpX y (nz 0)),.bool (okO (gcdX x y)),.int .i64 (cmpX (nz (vO (gcdX x y))) (nz 1)),.bool (cmpX (nz (vO (gcdX x y))) (nz 1) == 0)]) ⟨46,[RA 0 1],[],yh 104,[]⟩ :=
 zr (C:=[(10,.call ⟨69,[LF (.s 6 0 2 2)],[.bx 6 30 (nm 0++nm 1)],yh 100,[.bx 6 30 (nm 0++nm 1)]⟩),
  (10100,.fb 100 true),
  (15,.call ⟨71,[],[],NM 2,[]⟩),
  (16,.call ⟨70,[NM 1,NM 2],[],yh 101,[]⟩),
  (17,.bin .leq 3 (yh 101) (LF (.k (.int .i64 0))) (LF (.k (.bool false)))),
  (24,.call ⟨72,[NM 0,NM 1],[],.t [.g (nm 3),.c (.h 102)],[]⟩),
  (28,.call ⟨73,[],[],NM 4,[]⟩),
  (29,.call ⟨70,[NM 3,NM 4],[],yh 103,[]⟩),
  (30,.bin .eql 3 (yh 103) (LF (.k (.int .i64 0))) (yh 104))]) 0 (qU rfl) ⟨zgt rfl (zt (k:=0) rfl),c_fb (zt (k:=0) (congrArg Value.bool h)),zsD rfl,c_cmp (zt (k:=1) rfl),c_bin (zt (k:=1) rfl) ze (congrArg some h2) ze,c_gcd rfl (zt (k:=2) rfl),c_one rfl,c_cmp (zt (k:=3) rfl),c_bin (zt (k:=3) rfl) ze rfl (zt (k:=4) rfl),trivial⟩ mixed (by kernel_rfl)
theorem zoO {b:Int} (hb:b.natAbs<big):decide (cmpX (nz b) (nz 0)≤0)=!decide (0<b):=by
 rw [zdy hb (qF (by decide))]
 unfold cmpI
 by_cases h:b<0
 ·rw [if_pos h];simp;omega
 ·rw [if_neg h]
  by_cases h2:0<b
  ·rw [if_pos h2];simp [h2]
  ·rw [if_neg h2];simp;omega
theorem zsU {v:Nat} (hv:v<big):(cmpX (nz (v:Int)) (nz 1) == 0)=decide (v=1):=by
 rw [zdy (by simpa using hv) (qF (by decide))]
 unfold cmpI
 by_cases h:(v:Int)<1
 ·rw [if_pos h,decide_eq_false (by omega)];rfl
 ·rw [if_neg h]
  by_cases h2:1<(v:Int)
  ·rw [if_pos h2,decide_eq_false (by omega)];rfl
  ·rw [if_neg h2,decide_eq_true (by omega)];rfl
theorem zqL {xs:List Raw} {es:List Value} {w0:World} {i j:Nat} {o:Lf} (ho:Gives (FN xs es) o (.bool (rrX (X xs i) (X xs j)))) (hi:i<50:=by first | assumption | decide) (hj:j<50:=by first | assumption | decide):Con.sound (KN w0) Tryz.prog (FN xs es) ⟨46,[RA i j],[],LF o,[]⟩:=by
 refine dgR1 (fun d1 d2=>?_) hi hj
 cases h:zF (X xs i) && zF (X xs j) with
 | false =>
  have e:rrX (X xs i) (X xs j)=false:=by rw [zl6,← Bool.and_assoc,h];rfl
  rw [e] at ho
  exact tr (zrK _ _ h) (sh1 (RA_mv rfl rfl hi hj)) (LF_bk ho ze)
 | true =>
  have h':=h
  rw [Bool.and_eq_true] at h'
  obtain ⟨a,ea,ha⟩:=zf5 h'.1 d1
  obtain ⟨b,eb,hb⟩:=zf5 h'.2 d2
  rw [ea,eb,zpF ha hb] at ho
  cases h2:decide (cmpX (X xs j) (nz 0)≤0) with
  | true =>
   have h3:=h2
   rw [eb,zoO hb] at h3
   have e:decide (0<b)=false:=by simpa using h3
   rw [e,Bool.false_and] at ho
   exact tr (zrL _ _ h h2) (sh1 (RA_mv rfl rfl hi hj)) (LF_bk ho ze)
  | false =>
   have h3:=h2
   rw [eb,zoO hb] at h3
   have e:decide (0<b)=true:=by simpa using h3
   rw [e,Bool.true_and,← zsU (zgX ha hb)] at ho
   refine tr (zrM _ _ h h2) (sh1 (RA_mv rfl rfl hi hj)) (LF_bk ho (zt (k:=4) ?_))
   show Value.bool (cmpX (nz (vO (gcdX (X xs i) (X xs j)))) (nz 1) == 0)=_
   rw [ea,eb,zdK ha hb];rfl
end Go.Proofs.YtjcegdldgjphiaaGreatDoor
namespace Go.Proofs.YtjcegdldgjphiaaGreatDoor
open Go.RowKit Go.Shelf
theorem zsT {b:Int} (hb:b.natAbs<big):decide (cmpX (nz b) (nz 1)<0)=!decide (0<b):=by
 rw [zdy hb (qF (by decide))]
 unfold cmpI
 by_cases h:b<1
 ·rw [if_pos h];simp;omega
 ·rw [if_neg h]
  by_cases h2:1<b
  ·rw [if_pos h2];simp;omega
  ·rw [if_neg h2];simp;omega
theorem zke {b:Int} (hb:b.natAbs<big):(cmpX (nz b) (nz 0) == 0)=decide (b=0):=by
 rw [zdy hb (qF (by decide))]
 unfold cmpI
 by_cases h:b<0
 ·rw [if_pos h,decide_eq_false (by omega)];rfl
 ·rw [if_neg h]
  by_cases h2:0<b
  ·rw [if_pos h2,decide_eq_false (by omega)];rfl
  ·rw [if_neg h2,decide_eq_true (by omega)];rfl
theorem zoS {b:Int} (hb:b.natAbs<big):decide (cmpX (nz b) (nz 0)<0)=decide (b<0):=by
 rw [zdy hb (qF (by decide))]
 unfold cmpI
 by_cases h:b<0
 ·rw [if_pos h];simp [h]
 ·rw [if_neg h]
  by_cases h2:0<b
  ·rw [if_pos h2];simp;omega
  ·rw [if_neg h2];simp;omega
theorem zo0 {x y:Int} (hy:y≠0):∃q,ofR x y=some q∧q.num=(if y<0 then -x else x) / ((Nat.gcd x.natAbs y.natAbs:Nat):Int)∧q.den=y.natAbs / Nat.gcd x.natAbs y.natAbs:=by
 obtain ⟨q,h1,h2,h3⟩:=ztR (x:=x) (g:=decide (y<0)) (d:=y.natAbs) (by omega)
 rw [zaC] at h1
 refine ⟨q,h1,?_,h3⟩
 rw [h2]
 congr 1
 by_cases h:y<0<;>simp [h]
theorem ztE {x y:Int} (hy:y≠0):((Nat.gcd x.natAbs y.natAbs:Nat):Int)≠0:=by
 have:=zvn (x:=x) (d:=y.natAbs) (by omega)
 omega
theorem zq5 {x y:Int} (hx:x.natAbs<big) (hy:y.natAbs<big):(((Nat.gcd x.natAbs y.natAbs:Nat):Int)).natAbs<big:=by simpa using zgX hx hy
theorem zoW {x:Int} (hx:x.natAbs<big):nz (vO (subX (nz 0) (nz x)))=nz (-x):=by
 rw [zuJ (qF (by decide)) hx,zc4 (by omega),Int.zero_sub];rfl
theorem zor {x:Int} {v:Nat} (hx:x.natAbs<big):(x / (v:Int)).natAbs<big:=by
 refine Nat.lt_of_le_of_lt ?_ hx
 rw [show (x / (v:Int))=x.ediv v from rfl] at *
 exact Int.natAbs_ediv_le_natAbs x v
theorem zm9 {w0:World} (x y:Raw) (h:zF x=false):Con.sound (KN w0) Tryz.prog (FN [x,y] [.bool (zF x),.bool (zF y)]) ⟨48,[RA 0 1],[],LF (.k (.bool false)),[]⟩ :=
 zr (C:=[(7,.call ⟨75,[NM 0],[],yh 100,[]⟩),
  (10100,.fb 100 false)]) 0 (qU rfl) ⟨zY (zt (k:=0) rfl),c_fb (zt (k:=0) (congrArg Value.bool h)),trivial⟩ mixed (by kernel_rfl)
theorem zna {w0:World} (x y:Raw) (h:zF x=true) (h1:zF y=false):Con.sound (KN w0) Tryz.prog (FN [x,y] [.bool (zF x),.bool (zF y)]) ⟨48,[RA 0 1],[],LF (.k (.bool false)),[]⟩ :=
 zr (C:=[(7,.call ⟨75,[NM 0],[],yh 100,[]⟩),
  (12,.call ⟨75,[NM 1],[],yh 101,[]⟩),
  (10100,.fb 100 true),
  (10101,.fb 101 false)]) 0 (qU rfl) ⟨zY (zt (k:=0) rfl),zY (zt (k:=1) rfl),c_fb (zt (k:=0) (congrArg Value.bool h)),c_fb (zt (k:=1) (congrArg Value.bool h1)),trivial⟩ mixed (by kernel_rfl)
theorem znb {w0:World} (x y:Raw) (h:zF x=true) (h1:zF y=true) (h2:decide (cmpX y (nz 1)<0)=true):Con.sound (KN w0) Tryz.prog (FN [x,y,nz 1] [.bool (zF x),.bool (zF y),.int .i64 (cmpX y (nz 1))]) ⟨48,[RA 0 1],[],LF (.k (.bool false)),[]⟩ :=
 zr (C:=[(7,.call ⟨75,[NM 0],[],yh 100,[]⟩),
  (12,.call ⟨75,[NM 1],[],yh 101,[]⟩),
  (10100,.fb 100 true),
  (10101,.fb 101 true),
  (18,.call ⟨77,[LF (.k (.int .i64 1))],[],NM 2,[]⟩),
  (19,.call ⟨76,[NM 1,NM 2],[],yh 102,[]⟩),
  (20,.bin .lss 3 (yh 102) (LF (.k (.int .i64 0))) (LF (.k (.bool true))))]) 0 (qU rfl) ⟨zY (zt (k:=0) rfl),zY (zt (k:=1) rfl),c_fb (zt (k:=0) (congrArg Value.bool h)),c_fb (zt (k:=1) (congrArg Value.bool h1)),zbk ze (by decide) (by decide) rfl,zaU (zt (k:=2) rfl),c_bin (zt (k:=2) rfl) ze (congrArg some h2) ze,trivial⟩ mixed (by kernel_rfl)
theorem znc {w0:World} (x y:Raw) (h:zF x=true) (h1:zF y=true) (h2:decide (cmpX y (nz 1)<0)=false):Con.sound (KN w0) Tryz.prog (FN [x,y,nz 1,nz (vO (gcdX x y))] [.bool (zF x),.bool (zF y),.int .i64 (cmpX y (nz 1)),.bool (okO (gcdX x y)),.int .i64 (cmpX (nz (vO (gcdX x y))) (nz 1)),.bool (cmpX (nz (vO (gcdX x y))) (nz 1) == 0)]) ⟨48,[RA 0 1],[],yh 105,[]⟩ :=
 zr (C:=[(7,.call ⟨75,[NM 0],[],yh 100,[]⟩),
  (12,.call ⟨75,[NM 1],[],yh 101,[]⟩),
  (10100,.fb 100 true),
  (10101,.fb 101 true),
  (18,.call ⟨77,[LF (.k (.int .i64 1))],[],NM 2,[]⟩),
  (19,.call ⟨76,[NM 1,NM 2],[],yh 102,[]⟩),
  (20,.bin .lss 3 (yh 102) (LF (.k (.int .i64 0))) (LF (.k (.bool false)))),
  (27,.call ⟨78,[NM 0,NM 1],[],.t [.g (nm 3),.c (.h 103)],[]⟩),
  (31,.call ⟨77,[LF (.k (.int .i64 1))],[],NM 2,[]⟩),
  (32,.call ⟨76,[NM 3,NM 2],[],yh 104,[]⟩),
  (33,.bin .eql 3 (yh 104) (LF (.k (.int .i64 0))) (yh 105))]) 0 (qU rfl) ⟨zY (zt (k:=0) rfl),zY (zt (k:=1) rfl),c_fb (zt (k:=0) (congrArg Value.bool h)),c_fb (zt (k:=1) (congrArg Value.bool h1)),zbk ze (by decide) (by decide) rfl,zaU (zt (k:=2) rfl),c_bin (zt (k:=2) rfl) ze (congrArg some h2) ze,zgs rfl (zt (k:=3) rfl),zbk ze (by decide) (by decide) rfl,zaU (zt (k:=4) rfl),c_bin (zt (k:=4) rfl) ze rfl (zt (k:=5) rfl),trivial⟩ mixed (by kernel_rfl)
theorem zjW {xs:List Raw} {es:List Value} {w0:World} {i j:Nat} {o:Lf} (ho:Gives (FN xs es) o (.bool (rrX (X xs i) (X xs j)))) (hi:i<50:=by first | assumption | decide) (hj:j<50:=by first | assumption | decide):Con.sound (KN w0) Tryz.prog (FN xs es) ⟨48,[RA i j],[],LF o,[]⟩:=by
 refine dgR1 (fun d1 d2=>?_) hi hj
 rw [zl6] at ho
 cases h:zF (X xs i) with
 | false =>
  rw [h,Bool.false_and] at ho
  exact tr (zm9 _ _ h) (sh1 (RA_mv rfl rfl hi hj)) (LF_bk ho ze)
 | true =>
  cases h1:zF (X xs j) with
  | false =>
   rw [h,h1,Bool.false_and,Bool.and_false] at ho
   exact tr (zna _ _ h h1) (sh1 (RA_mv rfl rfl hi hj)) (LF_bk ho ze)
  | true =>
   obtain ⟨a,ea,ha⟩:=zf5 h d1
   obtain ⟨b,eb,hb⟩:=zf5 h1 d2
   rw [← zl6,ea,eb,zpF ha hb] at ho
   cases h2:decide (cmpX (X xs j) (nz 1)<0) with
   | true =>
    have h3:=h2
    rw [eb,zsT hb] at h3
    have e:decide (0<b)=false:=by simpa using h3
    rw [e,Bool.false_and] at ho
    exact tr (znb _ _ h h1 h2) (sh1 (RA_mv rfl rfl hi hj)) (LF_bk ho ze)
   | false =>
    have h3:=h2
    rw [eb,zsT hb] at h3
    have e:decide (0<b)=true:=by simpa using h3
    rw [e,Bool.true_and,← zsU (zgX ha hb)] at ho
    refine tr (znc _ _ h h1 h2) (sh1 (RA_mv rfl rfl hi hj)) (LF_bk ho (zt (k:=5) ?_))
    show Value.bool (cmpX (nz (vO (gcdX (X xs i) (X xs j)))) (nz 1) == 0)=_
    rw [ea,eb,zdK ha hb];rfl
def ngX (x:Raw):Raw:=nz (vO (subX (nz 0) x))
theorem zua {w0:World} (x y:Raw) (h:zF x=false):Con.sound (KN w0) Tryz.prog (FN [x,y] [.bool (zF x),.bool (zF y)]) ⟨95,[NM 0,NM 1],[],.t [.g ZC,.c (.k (.bool false))],[]⟩ :=
 zr (C:=[(10,.call ⟨75,[NM 0],[],yh 100,[]⟩),
  (10100,.fb 100 false)]) 0 (qU rfl) ⟨zY (zt (k:=0) rfl),c_fb (zt (k:=0) (congrArg Value.bool h)),trivial⟩ mixed (by kernel_rfl)
theorem zub {w0:World} (x y:Raw) (h:zF x=true) (h1:zF y=false):Con.sound (KN w0) Tryz.prog (FN [x,y] [.bool (zF x),.bool (zF y)]) ⟨95,[NM 0,NM 1],[],.t [.g ZC,.c (.k (.bool false))],[]⟩ :=
 zr (C:=[(10,.call ⟨75,[NM 0],[],yh 100,[]⟩),
  (14,.call ⟨75,[NM 1],[],yh 101,[]⟩),
  (10100,.fb 100 true),
  (10101,.fb 101 false)]) 0 (qU rfl) ⟨zY (zt (k:=0) rfl),zY (zt (k:=1) rfl),c_fb (zt (k:=0) (congrArg Value.bool h)),c_fb (zt (k:=1) (congrArg Value.bool h1)),trivial⟩ mixed (by kernel_rfl)
theorem zuc {w0:World} (x y:Raw) (h:zF x=true) (h1:zF y=true) (h2:(cmpX y (nz 0) == 0)=true):Con.sound (KN w0) Tryz.prog (FN [x,y,nz 0] [.bool (zF x),.bool (zF y),.int .i64 (cmpX y (nz 0))]) ⟨95,[NM 0,NM 1],[],.t [.g ZC,.c (.k (.bool false))],[]⟩ :=
 zr (C:=[(10,.call ⟨75,[NM 0],[],yh 100,[]⟩),
  (14,.call ⟨75,[NM 1],[],yh 101,[]⟩),
  (10100,.fb 100 true),
  (10101,.fb 101 true),
  (19,.call ⟨77,[LF (.k (.int .i64 0))],[],NM 2,[]⟩),
  (20,.call ⟨76,[NM 1,NM 2],[],yh 102,[]⟩),
  (21,.bin .eql 3 (yh 102) (LF (.k (.int .i64 0))) (LF (.k (.bool true))))]) 0 (qU rfl) ⟨zY (zt (k:=0) rfl),zY (zt (k:=1) rfl),c_fb (zt (k:=0) (congrArg Value.bool h)),c_fb (zt (k:=1) (congrArg Value.bool h1)),zbk ze (by decide) (by decide) rfl,zaU (zt (k:=2) rfl),c_bin (zt (k:=2) rfl) ze (congrArg some h2) ze,trivial⟩ mixed (by kernel_rfl)
theorem zud {w0:World} (x y:Raw) (h:zF x=true) (h1:zF y=true) (h2:(cmpX y (nz 0) == 0)=false) (h3:decide (cmpX y (nz 0)<0)=false):Con.sound (KN w0) Tryz.prog (FN [x,y,nz 0,nz (vO (gcdX x y)),nz (dqO (divX x (nz (vO (gcdX x y))))),nz (dqO (divX y (nz (vO (gcdX x y)))))] [.bool (zF x),.bool (zF y),.int .i64 (cmpX y (nz 0)),.bool (okO (gcdX x y))]) ⟨95,[NM 0,NM 1],[],.t [.g (nm 4++nm 5),.c (.k (.bool true))],[]⟩ :=
 zr (C:=[(10,.call ⟨75,[NM 0],[],yh 100,[]⟩),
  (14,.call ⟨75,[NM 1],[],yh 101,[]⟩),
  (10100,.fb 100 true),
  (10101,.fb 101 true),
  (19,.call ⟨77,[LF (.k (.int .i64 0))],[],NM 2,[]⟩),
  (20,.call ⟨76,[NM 1,NM 2],[],yh 102,[]⟩),
  (21,.bin .eql 3 (yh 102) (LF (.k (.int .i64 0))) (LF (.k (.bool false)))),
  (27,.call ⟨78,[NM 0,NM 1],[],.t [.g (nm 3),.c (.h 103)],[]⟩),
  (32,.call ⟨114,[NM 0,NM 3],[],NM 4,[]⟩),
  (35,.call ⟨114,[NM 1,NM 3],[],NM 5,[]⟩),
  (38,.call ⟨77,[LF (.k (.int .i64 0))],[],NM 2,[]⟩),
  (39,.call ⟨76,[NM 1,NM 2],[],yh 102,[]⟩),
  (40,.bin .lss 3 (yh 102) (LF (.k (.int .i64 0))) (LF (.k (.bool false))))]) 0 (qU rfl) ⟨zY (zt (k:=0) rfl),zY (zt (k:=1) rfl),c_fb (zt (k:=0) (congrArg Value.bool h)),c_fb (zt (k:=1) (congrArg Value.bool h1)),zbk ze (by decide) (by decide) rfl,zaU (zt (k:=2) rfl),c_bin (zt (k:=2) rfl) ze (congrArg some h2) ze,zgs rfl (zt (k:=3) rfl),zcY rfl,zcY rfl,zbk ze (by decide) (by decide) rfl,zaU (zt (k:=2) rfl),c_bin (zt (k:=2) rfl) ze (congrArg some h3) ze,trivial⟩ mixed (by kernel_rfl)
theorem zue {w0:World} (x y:Raw) (h:zF x=true) (h1:zF y=true) (h2:(cmpX y (nz 0) == 0)=false) (h3:decide (cmpX y (nz 0)<0)=true):Con.sound (KN w0) Tryz.prog (FN [x,y,nz 0,nz (vO (gcdX x y)),nz (dqO (divX x (nz (vO (gcdX x y))))),nz (dqO (divX y (nz (vO (gcdX x y))))),ngX (nz (dqO (divX x (nz (vO (gcdX x y)))))),ngX (nz (dqO (divX y (nz (vO (gcdX x y))))))] [.bool (zF x),.bool (zF y),.int .i64 (cmpX y (nz 0)),.bool (okO (gcdX x y))]) ⟨95,[NM 0,NM 1],[],.t [.g (nm 6++nm 7),.c (.k (.bool true))],[]⟩ :=
 zr (C:=[(10,.call ⟨75,[NM 0],[],yh 100,[]⟩),
  (14,.call ⟨75,[NM 1],[],yh 101,[]⟩),
  (10100,.fb 100 true),
  (10101,.fb 101 true),
  (19,.call ⟨77,[LF (.k (.int .i64 0))],[],NM 2,[]⟩),
  (20,.call ⟨76,[NM 1,NM 2],[],yh 102,[]⟩),
  (21,.bin .eql 3 (yh 102) (LF (.k (.int .i64 0))) (LF (.k (.bool false)))),
  (27,.call ⟨78,[NM 0,NM 1],[],.t [.g (nm 3),.c (.h 103)],[]⟩),
  (32,.call ⟨114,[NM 0,NM 3],[],NM 4,[]⟩),
  (35,.call ⟨114,[NM 1,NM 3],[],NM 5,[]⟩),
  (38,.call ⟨77,[LF (.k (.int .i64 0))],[],NM 2,[]⟩),
  (39,.call ⟨76,[NM 1,NM 2],[],yh 102,[]⟩),
  (40,.bin .lss 3 (yh 102) (LF (.k (.int .i64 0))) (LF (.k (.bool true)))),
  (43,.call ⟨115,[NM 4],[],NM 6,[]⟩),
  (47,.call ⟨115,[NM 5],[],NM 7,[]⟩)]) 0 (qU rfl) ⟨zY (zt (k:=0) rfl),zY (zt (k:=1) rfl),c_fb (zt (k:=0) (congrArg Value.bool h)),c_fb (zt (k:=1) (congrArg Value.bool h1)),zbk ze (by decide) (by decide) rfl,zaU (zt (k:=2) rfl),c_bin (zt (k:=2) rfl) ze (congrArg some h2) ze,zgs rfl (zt (k:=3) rfl),zcY rfl,zcY rfl,zbk ze (by decide) (by decide) rfl,zaU (zt (k:=2) rfl),c_bin (zt (k:=2) rfl) ze (congrArg some h3) ze,zfM rfl,zfM rfl,trivial⟩ mixed (by kernel_rfl)
theorem zqJ {xs:List Raw} {es:List Value} {w0:World} {i j k k2:Nat} {o:Lf} (h:X xs k=nz (nO (ofX (X xs i) (X xs j)))) (h2:X xs k2=nz ((dO (ofX (X xs i) (X xs j)):Nat):Int)) (ho:Gives (FN xs es) o (.bool (ofX (X xs i) (X xs j)).isSome)) (hi:i<50:=by first | assumption | decide) (hj:j<50:=by first | assumption | decide) (hk:k<50:=by first | assumption | decide) (hk2:k2<50:=by first | assumption | decide):Con.sound (KN w0) Tryz.prog (FN xs es) ⟨95,[NM i,NM j],[],.t [.g (nm k++nm k2),.c o],[]⟩:=by
 refine dgN2 (fun d1 d2=>?_) hi hj
 cases hr:zF (X xs i) && zF (X xs j) with
 | false =>
  have e:ofX (X xs i) (X xs j)=none:=by unfold ofX;rw [if_neg (by rw [hr];simp)]
  rw [e] at h h2 ho
  cases hx:zF (X xs i) with
  | false=>exact tr (zua _ _ hx) (sh2 (NM_mv rfl hi) (NM_mv rfl hj)) (T2_bk (ZR_bk h h2 hk hk2) (LF_bk ho ze))
  | true =>
   rw [hx,Bool.true_and] at hr
   exact tr (zub _ _ hx hr) (sh2 (NM_mv rfl hi) (NM_mv rfl hj)) (T2_bk (ZR_bk h h2 hk hk2) (LF_bk ho ze))
 | true =>
  have hr':=hr
  rw [Bool.and_eq_true] at hr'
  obtain ⟨a,ea,ha⟩:=zf5 hr'.1 d1
  obtain ⟨b,eb,hb⟩:=zf5 hr'.2 d2
  rw [ea,eb,zlP ha hb] at h h2 ho
  cases hz:cmpX (X xs j) (nz 0) == 0 with
  | true =>
   have hz':=hz
   rw [eb,zke hb] at hz'
   have e:ofR a b=none:=by unfold ofR;rw [if_pos (of_decide_eq_true hz')]
   rw [e] at h h2 ho
   exact tr (zuc _ _ hr'.1 hr'.2 hz) (sh2 (NM_mv rfl hi) (NM_mv rfl hj)) (T2_bk (ZR_bk h h2 hk hk2) (LF_bk ho ze))
  | false =>
   have hz':=hz
   rw [eb,zke hb] at hz'
   have hb0:b≠0:=of_decide_eq_false hz'
   obtain ⟨p,e,hpn,hpd⟩:=zo0 (x:=a) (y:=b) hb0
   rw [e] at h h2 ho
   have hg:=zq5 ha hb
   have hg0:=ztE (x:=a) hb0
   cases hn:decide (cmpX (X xs j) (nz 0)<0) with
   | false =>
    have hbp:¬ b<0:=by rw [eb,zoS hb] at hn;exact of_decide_eq_false hn
    rw [if_neg hbp] at hpn
    refine tr (zud _ _ hr'.1 hr'.2 hz hn) (sh2 (NM_mv rfl hi) (NM_mv rfl hj)) (T2_bk (RA_bk ?_ ?_) (LF_bk ho ze))
    ·show nz (dqO (divX (X xs i) (nz (vO (gcdX (X xs i) (X xs j))))))=_
     rw [h,ea,eb,zdK ha hb]
     show nz (dqO (divX (nz a) (nz ((Nat.gcd a.natAbs b.natAbs:Nat):Int))))=nz p.num
     rw [zgB ha hg hg0,hpn];rfl
    ·show nz (dqO (divX (X xs j) (nz (vO (gcdX (X xs i) (X xs j))))))=_
     rw [h2,ea,eb,zdK ha hb]
     show nz (dqO (divX (nz b) (nz ((Nat.gcd a.natAbs b.natAbs:Nat):Int))))=nz ((p.den:Nat):Int)
     rw [zgB hb hg hg0,hpd,Int.natCast_ediv,Int.natAbs_of_nonneg (by omega)];rfl
   | true =>
    have hbn:b<0:=by rw [eb,zoS hb] at hn;exact of_decide_eq_true hn
    rw [if_pos hbn] at hpn
    refine tr (zue _ _ hr'.1 hr'.2 hz hn) (sh2 (NM_mv rfl hi) (NM_mv rfl hj)) (T2_bk (RA_bk ?_ ?_) (LF_bk ho ze))
    ·show ngX (nz (dqO (divX (X xs i) (nz (vO (gcdX (X xs i) (X xs j)))))))=_
     rw [h,ea,eb,zdK ha hb]
     show ngX (nz (dqO (divX (nz a) (nz ((Nat.gcd a.natAbs b.natAbs:Nat):Int)))))=nz p.num
     rw [zgB ha hg hg0,hpn]
     show ngX (nz (a / ((Nat.gcd a.natAbs b.natAbs:Nat):Int)))=_
     rw [zg5]
     exact zoW (zor ha)
    ·show ngX (nz (dqO (divX (X xs j) (nz (vO (gcdX (X xs i) (X xs j)))))))=_
     rw [h2,ea,eb,zdK ha hb]
     show ngX (nz (dqO (divX (nz b) (nz ((Nat.gcd a.natAbs b.natAbs:Nat):Int)))))=nz ((p.den:Nat):Int)
     rw [zgB hb hg hg0,hpd,Int.natCast_ediv,show ((b.natAbs:Nat):Int)=-b by omega]
     show ngX (nz (b / ((Nat.gcd a.natAbs b.natAbs:Nat):Int)))=_
     rw [Int.neg_ediv_of_dvd (Int.ofNat_dvd_left.2 (Nat.gcd_dvd_right _ _))]
     exact zoW (zor hb)
end Go.Proofs.YtjcegdldgjphiaaGreatDoor
namespace Go.Proofs.YtjcegdldgjphiaaGreatDoor
open Go.RowKit Go.Shelf
section
variable (a b c d:Raw)
end
section
variable {p r:Rat}
end
end Go.Proofs.YtjcegdldgjphiaaGreatDoor
namespace Go.Proofs.YtjcegdldgjphiaaGreatDoor
open Go.RowKit Go.Shelf
def cf:Nat→Int→Int→Int→Int→Int→Int×Int
 | 0,_,_,_,_,s=>(0,s)
 | k+1,n1,d1,n2,d2,s=>if cmpI (n1 / d1) (n2 / d2)≠0 then (cmpI (n1 / d1) (n2 / d2),s) else if n1%d1=0∨n2%d2=0 then (cmpI (n1%d1) (n2%d2),s) else cf k d1 (n1%d1) d2 (n2%d2) (-s)
structure CT where
 n1:Int
 d1:Int
 n2:Int
 d2:Int
 s:Int
 k:Nat
def CT.F (t:CT):Fact:=FN [nz t.n1,nz t.d1,nz t.n2,nz t.d2] [.int .i64 t.s]
def CT.J (o:Int×Int) (t:CT):Prop:=0<t.d1∧0<t.d2∧t.n1.natAbs<big∧t.d1.natAbs<big∧t.n2.natAbs<big∧t.d2.natAbs<big∧(t.s=1∨t.s=-1)∧t.d1.toNat<t.k∧cf t.k t.n1 t.d1 t.n2 t.d2 t.s=o
theorem Fun.fin {K:Kit} {P:Program} {f:Nat} {az:List PSh} {r r2:PSh} (h:Fun K P f az r) (hr:∀v W D,r.ok v W D→r2.ok v W D):Fun K P f az r2:=Fun.imp h (fun _ _ _ h=>h) hr
def FQ (ps:List Pred) (gs:List LPred) (qs:List (Nat×Pred)):Fact:=⟨fun n=>match Nat.ble 5000 n with
 | true=>look n qs
 | false=>(FL ps gs qs).c n,(FL ps gs qs).g⟩
abbrev LQ (K:Kit) (Q:List (Nat×Pred)→List (Nat×Pred)):Prop:=∀t,zgn K t→zgn K (Q t)
abbrev LI (K:Kit) (P:Program) (A:List Pred→List Pred) (Q:List (Nat×Pred)→List (Nat×Pred)) (D:List (Nat×Ent)):Prop:=∀t qq,Sound K P (FQ (A t) [] (Q qq)) D
theorem zws {K:Kit} {ps:List Pred} {gs:List LPred} {qs:List (Nat×Pred)} (h:FineAll K ps) (hg:zgm K gs) (hq:zgn K qs):Fine K (FQ ps gs qs):=by
 have G:=zg h hg hq
 refine ⟨fun n=>?_,fun n hn v W D hp=>?_,G.g⟩
 ·cases hb:Nat.ble 5000 n with
  | true=>rw [show (FQ ps gs qs).c n=look n qs by show (match Nat.ble 5000 n with | true=>look n qs | false=>(FL ps gs qs).c n)=_;rw [hb]];exact (zeD n hq).1
  | false=>rw [show (FQ ps gs qs).c n=(FL ps gs qs).c n by show (match Nat.ble 5000 n with | true=>look n qs | false=>(FL ps gs qs).c n)=_;rw [hb]];exact G.m n
 ·have hb:Nat.ble 5000 n=false:=by
   cases hb:Nat.ble 5000 n with
   | true=>have:=Nat.le_of_ble_eq_true hb;omega
   | false=>rfl
  rw [show (FQ ps gs qs).c n=(FL ps gs qs).c n by show (match Nat.ble 5000 n with | true=>look n qs | false=>(FL ps gs qs).c n)=_;rw [hb]] at hp
  exact G.c n hn hp
end Go.Proofs.YtjcegdldgjphiaaGreatDoor
namespace Go.Proofs.YtjcegdldgjphiaaGreatDoor
open Go.RowKit Go.Shelf
def pD (l:List Nat):Pred:=fun v W _=>∃A m c,v=.slice A m c∧Sl W W.heap.size A m c l
abbrev cN (x:Raw):List Pred:=[pB x.1,pD x.2]
abbrev gN (x:Raw):PSh:=.o (.g [pB x.1,pD x.2])
abbrev RR:=Raw×Raw
abbrev gR (x:RR):PSh:=.o (.g [pB x.1.1,pD x.1.2,pB x.2.1,pD x.2.2])
def rq (o:Option Rat):RR:=(nz (nO o),nz ((dO o:Nat):Int))
def qq (x:RR):Option Rat:=qX x.1 x.2
theorem zm {w0:World} {l:List Nat}:FineC (KN w0) (pD l):=by
 constructor
 ·rintro v W W' D D' S hS hO _ ⟨A,m,c,e,hs⟩
  exact ⟨A,m,c,e,(Sl.oth hS hO hs).more hO.size⟩
 ·rintro v W D ⟨A,m,c,e,_⟩
  rw [e];rfl
theorem nil_D {v:Value} {W:World} {D:Dat} (h:pV (.slice none 0 0) v W D):pD [] v W D:=⟨none,0,0,h,Sl.none_⟩
theorem zqv {v:Value} {W:World} {D:Dat} (h:(PSh.o (.g [pV (.bool false),pV (.slice none 0 0),pV (.bool false),pV (.slice none 0 0)])).ok v W D):(gR (rq none)).ok v W D:=by
 obtain ⟨vs,e,h1⟩:=h
 refine ⟨vs,e,?_⟩
 have e0:rq none=((false,[]),(false,[])):=by show (nz 0,nz 0)=_;rw [zoY]
 rw [e0]
 match vs.toList,h1 with
 | [a,b,c,d],⟨h1,h2,h3,h4,_⟩=>exact ⟨h1,nil_D h2,h3,nil_D h4,trivial⟩
 | [],h=>exact h.elim
 | [_],h=>exact h.2.elim
 | [_,_],h=>exact h.2.2.elim
 | [_,_,_],h=>exact h.2.2.2.elim
 | _::_::_::_::_::_,h=>exact h.2.2.2.2.elim
theorem zq2 {w0:World} (x y r:Raw) (o:Bool) (hr:nz (vO (addX x y))=r) (ho:okO (addX x y)=o):Fun (KN w0) Tryz.prog 113 [gN x,gN y] (.t [.g (cN r),.c (pB o)]):=
 zq (zqG (xs:=[x,y,r]) (es:=[.bool o]) (i:=0) (j:=1) (k:=2) (o:=.h 100) hr.symm (zt (k:=0) (congrArg Value.bool ho.symm))) (by kernel_rfl) (by kernel_rfl) rfl rfl
theorem zq3 {w0:World} (x y r:Raw) (o:Bool) (hr:nz (vO (mulX x y))=r) (ho:okO (mulX x y)=o):Fun (KN w0) Tryz.prog 112 [gN x,gN y] (.t [.g (cN r),.c (pB o)]):=
 zq (zqI (xs:=[x,y,r]) (es:=[.bool o]) (i:=0) (j:=1) (k:=2) (o:=.h 100) hr.symm (zt (k:=0) (congrArg Value.bool ho.symm))) (by kernel_rfl) (by kernel_rfl) rfl rfl
theorem f_cmp {w0:World} (x y:Raw) (o:Int) (ho:cmpX x y=o):Fun (KN w0) Tryz.prog 70 [gN x,gN y] (.o (.c (pI o))):=
 zq (c_cmp (xs:=[x,y]) (es:=[.int .i64 o]) (i:=0) (j:=1) (o:=.h 100) (zt (k:=0) (congrArg (Value.int .i64) ho.symm))) (by kernel_rfl) (by kernel_rfl) rfl rfl
theorem zeq {w0:World} (x y:Raw) (o:Int) (ho:cmpX x y=o):Fun (KN w0) Tryz.prog 76 [gN x,gN y] (.o (.c (pI o))):=
 zq (zaU (xs:=[x,y]) (es:=[.int .i64 o]) (i:=0) (j:=1) (o:=.h 100) (zt (k:=0) (congrArg (Value.int .i64) ho.symm))) (by kernel_rfl) (by kernel_rfl) rfl rfl
theorem zoD {w0:World} (x:Int) (r:Raw) (hr:nz x=r) (h0:-9223372036854775808≤x) (h1:x<9223372036854775808):Fun (KN w0) Tryz.prog 65 [.o (.c (pI x))] (gN r):=
 zq (zob (xs:=[r]) (es:=[.int .i64 x]) (k:=0) (a:=.h 100) (zt (k:=0) rfl) h0 h1 hr.symm) (by kernel_rfl) (by kernel_rfl) rfl rfl
theorem qN {w0:World} (x:Int) (r:Raw) (hr:nz x=r) (h0:-9223372036854775808≤x) (h1:x<9223372036854775808):Fun (KN w0) Tryz.prog 77 [.o (.c (pI x))] (gN r):=
 zq (zbk (xs:=[r]) (es:=[.int .i64 x]) (k:=0) (a:=.h 100) (zt (k:=0) rfl) h0 h1 hr.symm) (by kernel_rfl) (by kernel_rfl) rfl rfl
theorem f_one {w0:World} (r:Raw) (hr:nz 1=r):Fun (KN w0) Tryz.prog 73 [] (gN r):=
 zq (c_one (xs:=[r]) (es:=[]) (k:=0) hr.symm) (by kernel_rfl) (by kernel_rfl) rfl rfl
theorem zas {w0:World} (x:RR) (o:Bool) (ho:rrX x.1 x.2=o):Fun (KN w0) Tryz.prog 46 [gR x] (.o (.c (pB o))):=
 zq (zqL (xs:=[x.1,x.2]) (es:=[.bool o]) (i:=0) (j:=1) (o:=.h 100) (zt (k:=0) (congrArg Value.bool ho.symm))) (by kernel_rfl) (by kernel_rfl) rfl rfl
theorem za2 {w0:World} (x:RR) (o:Bool) (ho:rrX x.1 x.2=o):Fun (KN w0) Tryz.prog 48 [gR x] (.o (.c (pB o))):=
 zq (zjW (xs:=[x.1,x.2]) (es:=[.bool o]) (i:=0) (j:=1) (o:=.h 100) (zt (k:=0) (congrArg Value.bool ho.symm))) (by kernel_rfl) (by kernel_rfl) rfl rfl
theorem zgO {w0:World} (x y:Raw) (r:RR) (o:Bool) (hr:rq (ofX x y)=r) (ho:(ofX x y).isSome=o):Fun (KN w0) Tryz.prog 95 [gN x,gN y] (.t [.g (cN r.1++cN r.2),.c (pB o)]):=
 zq (zqJ (xs:=[x,y,r.1,r.2]) (es:=[.bool o]) (i:=0) (j:=1) (k:=2) (k2:=3) (o:=.h 100) (congrArg Prod.fst hr.symm) (congrArg Prod.snd hr.symm) (zt (k:=0) (congrArg Value.bool ho.symm))) (by kernel_rfl) (by kernel_rfl) rfl rfl
theorem zoG {w0:World} (hT:∀W,Below w0.heap.size w0 W→PowT w0.heap.size W) (x:Raw) (t:List UInt8) (ht:textS x.1 x.2=t):Fun (KN w0) Tryz.prog 74 [gN x] (.o (.c (pS t))):=
 zq (zvc (xs:=[x]) (es:=[.string ⟨t.toArray⟩]) (i:=0) (o:=.h 100) hT (zt (k:=0) (by rw [← ht];rfl))) (by kernel_rfl) (by kernel_rfl) rfl rfl
theorem qE {w0:World} (hT:∀W,Below w0.heap.size w0 W→PowT w0.heap.size W∧SynT w0.heap.size W) (s:List UInt8) (r:Raw) (o:Bool) (hr:nz (vO (zp s))=r) (ho:okO (zp s)=o):Fun (KN w0) Tryz.prog 109 [.o (.c (pS s))] (.t [.g (cN r),.c (pB o)]):=
 zq (ztm (xs:=[r]) (es:=[.string ⟨s.toArray⟩,.bool o]) (k:=0) (a:=.h 100) (o:=.h 101) hT (zt (k:=0) rfl) hr.symm (zt (k:=1) (congrArg Value.bool ho.symm))) (by kernel_rfl) (by kernel_rfl) rfl rfl
end Go.Proofs.YtjcegdldgjphiaaGreatDoor
