/-
  Merged: NumRefZ, NumSame, NumVals, NumIs, NumRefY, RatMath, RatZ, RatMem, RatR, SymN, SymR, SymM.
-/
import Derived.Test.YtjcegdldgjphiaaGreatDoorGlAM
import Derived.Test.YtjcegdldgjphiaaGreatDoorGlAF
import Derived.WalkKit
import Derived.Test.YtjcegdldgjphiaaGreatDoorGlAK
import Derived.BigQuiet
import Derived.Test.YtjcegdldgjphiaaGreatDoorGlAB
set_option linter.unusedSimpArgs false
set_option linter.unusedVariables false
set_option maxRecDepth 100000
set_option maxHeartbeats 4000000
namespace Go.Proofs.YtjcegdldgjphiaaGreatDoor
open Go.RowKit Go.Shelf
theorem za5 {A:Option Addr} {n c B v:Nat} {l:List Nat} {w:World} (h:Sl w B A n c l) (hv:nval l=v) :
  Calls Tryz.prog 107 #[.slice A n c] w fun e w'=>∃n',e=.returned (.slice A n' c)∧Sl w B A n' c (digs v)∧w=w' :=
 (zao A n c B l w h.1 h.2.1 h.2.2).mono fun _ _ ⟨he,hw⟩=>⟨_,he,h.val hv,hw⟩
theorem zhj {A:Option Addr} {n c B k:Nat} {l:List Nat} {w:World} (h:Sl w B A n c l) :
  Calls Tryz.prog 158 #[.slice A n c,.int .i64 (k:Int)] w fun e w'=>e=.returned (.int .u64 (dg l k:Nat))∧w=w':=by
 have HL:=Lib.hid h.len
 go_enter Tryz.func158,Tryz.ntmps158
 by_cases hk:(k:Int)<n
 ·obtain ⟨ad,rfl,hb,hc⟩:=h.at_ (k:=k) (by omega)
  have hd:=dg_lt h.dig k
  have e1:IntKind.u64.wrap (dg l k:Int)=(dg l k:Nat):=by rw [IntKind.wrap_u64];omega
  clear h
  go_wp2
  go_ret
  exact ⟨znq (by omega),rfl⟩
 ·have e:=zcr (l:=l) (k:=k) (by have:=HL.out;omega)
  clear h
  go_wp2
  go_ret
  exact ⟨rfl,rfl⟩
theorem ze6 (neg:Bool) (A:Option Addr) (n c B:Nat) (l:List Nat) (w:World) (h:RD w B A n l) (hB:B≤w.heap.size) (hn:n≤c) :
  Calls Tryz.prog 75 #[.agg #[.bool neg,.slice A n c]] w fun e w'=>e=.returned (.bool (zq neg l))∧Below w.heap.size w w':=by
 have HL:=Lib.hid h.len
 have H:=Lib.hid h
 clear h
 go_enter Tryz.func75,Tryz.ntmps75
 cases n with
 | zero =>
  cases neg<;>go_wp2
  all_goals go_ret
  all_goals refine ⟨zap ?_,by go_grown⟩
  all_goals rw [zdx HL.out]
  all_goals rfl
 | succ j =>
  obtain ⟨ad,hl,rfl,hb,hc,hd⟩:=H.out.at_ (k:=j) (by omega)
  have R:=Lib.hid (zcN (neg:=neg) HL.out hl)
  have hca:∀o,(w.alloc o).cell? (ad.add j)=some (.int .u32 (l[j]:Nat)):=fun o=>(World.cell?_alloc_lt w o _ (by rw [qD];omega)).trans hc
  clear hc hb hd
  by_cases h64:(j:Int)+1≤64
  ·by_cases hz:l[j]=0
   ·rw [hz] at hca R
    go_wp2
    all_goals go_ret
    all_goals refine ⟨zap ?_,by go_grown⟩
    all_goals rw [R.out]
    all_goals simp
   ·have hz':((l[j]:Int) != 0)=true:=by simp;exact hz
    go_wp2
    all_goals go_ret
    all_goals refine ⟨zap ?_,by go_grown⟩
    all_goals rw [R.out]
    all_goals simp [hz]
    all_goals omega
  ·go_wp2
   all_goals go_ret
   all_goals refine ⟨zap ?_,by go_grown⟩
   all_goals rw [R.out]
   all_goals simp
   all_goals omega
theorem ze9 {A A2:Option Addr} {n c n2 c2:Nat} (h:Value.slice A n c=.slice A2 n2 c2):A=A2∧n=n2∧c=c2:=by cases h;exact ⟨rfl,rfl,rfl⟩
theorem OwnD.sl_len {w:World} {base g n cap:Nat} {l:List Nat} {d:Nat} (h:OwnD w base (.slice (some ⟨g,0,none⟩) (n+1) cap) (l++[d])):Sl w w.heap.size (some ⟨g,0,none⟩) (n+1) cap (l++[d]):=by
 obtain ⟨A3,c3,he3,hs3,_⟩:=h.sl
 obtain ⟨rfl,h3,rfl⟩:=ze9 he3
 rw [← h3] at hs3
 exact hs3
theorem zhS {O P P' L M d cy x y cy':Nat} (hp:P'=P*4294967296) (hd:d+4294967296*cy'=cy+x+y) (h:O+P*cy=L+M):O+P*d+P'*cy'=(L+P*x)+(M+P*y):=by
 subst hp
 have h1:P*(d+4294967296*cy')=P*(cy+x+y):=by rw [hd]
 simp only [Nat.mul_add,← Nat.mul_assoc] at h1
 omega
theorem zgR (A A2:Option Addr) (n c n2 c2 B:Nat) (l m:List Nat) (w:World) (h:Sl w B A n c l) (h2:Sl w B A2 n2 c2 m) (hB:B≤w.heap.size) (hn:n≤1000) (hn2:n2≤1000) :
  Calls Tryz.prog 140 #[.slice A n c,.slice A2 n2 c2] w (RetD (nval l+nval m) w):=by
 have HL:=Lib.hid h.len
 have HL2:=Lib.hid h2.len
 have H:=Lib.hid h
 have H2:=Lib.hid h2
 clear h h2
 obtain ⟨i0,hi,hz0,hz1,hz2⟩:=info_parts Tryz.infoU32
 have AT:=Lib.hid (fun (W:World) (hW:Below w.heap.size w W) (k:Nat)=>zhj (k:=k) (H.out.below (hW.mono hB)))
 have AT2:=Lib.hid (fun (W:World) (hW:Below w.heap.size w W) (k:Nat)=>zhj (k:=k) (H2.out.below (hW.mono hB)))
 go_enter Tryz.func140,Tryz.ntmps140
 go_wp2_with fail
 go_loopw [5,6,7] (fun x y z W=>∃(k cy:Nat) (o:List Nat),k≤1000∧cy<4294967296∧y=.int .u64 cy∧z=.int .i64 k∧Below w.heap.size w W∧Hid (OwnD W w.heap.size x o∧o.length=k∧nval o+4294967296 ^ k*cy=nval (l.take k)+nval (m.take k))) (fun _ _ z _=>1000 - (intOf z).toNat)
 case atStart=>exact ⟨0,0,[],by omega,by omega,rfl,rfl,Below.refl _ _,Lib.hid ⟨OwnD.nil _ _,rfl,by simp [nval]⟩⟩
 case round =>
  obtain ⟨k,cy,o,hk,hcy,rfl,rfl,hBB,hI⟩:=hrel
  have hd1:=dg_lt H.out.dig k
  have hd2:=dg_lt H2.out.dig k
  by_cases hlt:(k:Int)<n
  ·obtain ⟨s,hs⟩:∃s,cy+dg l k+dg m k=s:=⟨_,rfl⟩
   obtain ⟨d,hsd⟩:∃d,s%4294967296=d:=⟨_,rfl⟩
   obtain ⟨c',hsc⟩:∃c',s / 4294967296=c':=⟨_,rfl⟩
   have ed:((cy:Int)+(dg l k:Nat)+(dg m k:Nat))%4294967296=(d:Int):=by omega
   have ev:((cy:Int)+(dg l k:Nat)+(dg m k:Nat)) / 4294967296=(c':Int):=by omega
   have hdl:d<4294967296:=by omega
   have hcl':c'<4294967296:=by omega
   have hdm:d+4294967296*c'=cy+dg l k+dg m k:=by omega
   obtain ⟨hO,hlo,hI2⟩:=hI.out
   have hb0:Below wr.heap.size wr (wr.alloc (.cells #[.int .u32 (d:Nat)] 123)):=(Below.refl _ _).alloc (Nat.le_refl _) _
   have hb1:=hBB.trans (hb0.mono hBB.size)
   have hO1:=Lib.hid (hO.below hb0 (Nat.le_refl _))
   have hnews:∀j u,[Value.int .u32 (d:Nat)][j]?=some u→(wr.alloc (.cells #[.int .u32 (d:Nat)] 123)).cell? ((⟨wr.heap.size,0,none⟩:Addr).add j)=some u:=by
    intro j u hj
    match j,hj with
    | 0,hj=>simp at hj;subst hj;simp [Addr.add]
   have hcl:∀u∈[Value.int .u32 (d:Nat)],u.oneCell'=true:=by intro u hu;simp at hu;subst hu;rfl
   have hmx:o.length+1≤maxLen:=by unfold maxLen;omega
   have hby2:(o.length+1)*4≤140737488355328:=by omega
   have hbs:w.heap.size≤(wr.alloc (.cells #[.int .u32 (d:Nat)] 123)).heap.size:=hb1.size
   have hst:=Lib.hid (And.intro hlo (And.intro hI2 (And.intro hs hdm)))
   have tk1:Hid True:=trivial
   have tk2:Hid True:=trivial
   clear hO hI hs hsd hsc hdm hlo hI2
   go_wp2_with (first
    | (clear tk1;go_at_call 158;(with_reducible refine (AT.out _ hBB _).mono ?_);rintro e w1 ⟨rfl,rfl⟩)
    | (clear tk2;go_at_call 158;(with_reducible refine (AT2.out _ hBB _).mono ?_);rintro e w1 ⟨rfl,rfl⟩)
    | (at_builtin;refine wpList_append_lies _ rfl _ _ 28 rfl w.heap.size 123 i0 (.int .u32 0) 1 4 Tryz.underlying28 hi hz0 hz1 hz2 rfl (by decide) _ _ _ rfl hO1.out.1 ⟨wr.heap.size,0,none⟩ 1 1 [.int .u32 (d:Nat)] rfl rfl hnews hcl (by decide) hmx hby2 hbs _ rfl ?_;intro g cap w1 hown' hgrow _ hlt;have hP:=Lib.hid (hO1.out.pushed hdl hown' hgrow hbs);clear hown' hgrow)
    | fail "no arm")
   refine ⟨⟨k+1,c',o++[d],by omega,by omega,rfl,rfl,hb1.trans (hP.out.2.mono (Nat.le_refl _)),Lib.hid ⟨hP.out.1,by rw [List.length_append,hst.out.1];rfl,?_⟩⟩,?_⟩
   ·rw [zad,hst.out.1,zk l,zk m]
    exact zhS (Nat.pow_succ ..) hst.out.2.2.2 hst.out.2.1
   ·simp only [intOf]
    omega
  ·by_cases hlt2:(k:Int)<n2
   ·obtain ⟨s,hs⟩:∃s,cy+dg l k+dg m k=s:=⟨_,rfl⟩
    obtain ⟨d,hsd⟩:∃d,s%4294967296=d:=⟨_,rfl⟩
    obtain ⟨c',hsc⟩:∃c',s / 4294967296=c':=⟨_,rfl⟩
    have ed:((cy:Int)+(dg l k:Nat)+(dg m k:Nat))%4294967296=(d:Int):=by omega
    have ev:((cy:Int)+(dg l k:Nat)+(dg m k:Nat)) / 4294967296=(c':Int):=by omega
    have hdl:d<4294967296:=by omega
    have hcl':c'<4294967296:=by omega
    have hdm:d+4294967296*c'=cy+dg l k+dg m k:=by omega
    obtain ⟨hO,hlo,hI2⟩:=hI.out
    have hb0:Below wr.heap.size wr (wr.alloc (.cells #[.int .u32 (d:Nat)] 123)):=(Below.refl _ _).alloc (Nat.le_refl _) _
    have hb1:=hBB.trans (hb0.mono hBB.size)
    have hO1:=Lib.hid (hO.below hb0 (Nat.le_refl _))
    have hnews:∀j u,[Value.int .u32 (d:Nat)][j]?=some u→(wr.alloc (.cells #[.int .u32 (d:Nat)] 123)).cell? ((⟨wr.heap.size,0,none⟩:Addr).add j)=some u:=by
     intro j u hj
     match j,hj with
     | 0,hj=>simp at hj;subst hj;simp [Addr.add]
    have hcl:∀u∈[Value.int .u32 (d:Nat)],u.oneCell'=true:=by intro u hu;simp at hu;subst hu;rfl
    have hmx:o.length+1≤maxLen:=by unfold maxLen;omega
    have hby2:(o.length+1)*4≤140737488355328:=by omega
    have hbs:w.heap.size≤(wr.alloc (.cells #[.int .u32 (d:Nat)] 123)).heap.size:=hb1.size
    have hst:=Lib.hid (And.intro hlo (And.intro hI2 (And.intro hs hdm)))
    have tk1:Hid True:=trivial
    have tk2:Hid True:=trivial
    clear hO hI hs hsd hsc hdm hlo hI2
    go_wp2_with (first
     | (clear tk1;go_at_call 158;(with_reducible refine (AT.out _ hBB _).mono ?_);rintro e w1 ⟨rfl,rfl⟩)
     | (clear tk2;go_at_call 158;(with_reducible refine (AT2.out _ hBB _).mono ?_);rintro e w1 ⟨rfl,rfl⟩)
     | (at_builtin;refine wpList_append_lies _ rfl _ _ 28 rfl w.heap.size 123 i0 (.int .u32 0) 1 4 Tryz.underlying28 hi hz0 hz1 hz2 rfl (by decide) _ _ _ rfl hO1.out.1 ⟨wr.heap.size,0,none⟩ 1 1 [.int .u32 (d:Nat)] rfl rfl hnews hcl (by decide) hmx hby2 hbs _ rfl ?_;intro g cap w1 hown' hgrow _ hlt;have hP:=Lib.hid (hO1.out.pushed hdl hown' hgrow hbs);clear hown' hgrow)
     | fail "no arm")
    refine ⟨⟨k+1,c',o++[d],by omega,by omega,rfl,rfl,hb1.trans (hP.out.2.mono (Nat.le_refl _)),Lib.hid ⟨hP.out.1,by rw [List.length_append,hst.out.1];rfl,?_⟩⟩,?_⟩
    ·rw [zad,hst.out.1,zk l,zk m]
     exact zhS (Nat.pow_succ ..) hst.out.2.2.2 hst.out.2.1
    ·simp only [intOf]
     omega
   ·have hend:n≤k∧n2≤k:=by omega
    have hfin:Hid (nval (l.take k)+nval (m.take k)=nval l+nval m):=by unfold Hid;rw [List.take_of_length_le (by have:=HL.out;omega),List.take_of_length_le (by have:=HL2.out;omega)]
    have ed:(cy:Int)%4294967296=(cy:Int):=by omega
    obtain ⟨hO,hlo,hI2⟩:=hI.out
    have hb0:Below wr.heap.size wr (wr.alloc (.cells #[.int .u32 (cy:Nat)] 123)):=(Below.refl _ _).alloc (Nat.le_refl _) _
    have hb1:=hBB.trans (hb0.mono hBB.size)
    have hO1:=Lib.hid (hO.below hb0 (Nat.le_refl _))
    have hnews:∀j u,[Value.int .u32 (cy:Nat)][j]?=some u→(wr.alloc (.cells #[.int .u32 (cy:Nat)] 123)).cell? ((⟨wr.heap.size,0,none⟩:Addr).add j)=some u:=by
     intro j u hj
     match j,hj with
     | 0,hj=>simp at hj;subst hj;simp [Addr.add]
    have hcl:∀u∈[Value.int .u32 (cy:Nat)],u.oneCell'=true:=by intro u hu;simp at hu;subst hu;rfl
    have hmx:o.length+1≤maxLen:=by unfold maxLen;omega
    have hby2:(o.length+1)*4≤140737488355328:=by omega
    have hbs:w.heap.size≤(wr.alloc (.cells #[.int .u32 (cy:Nat)] 123)).heap.size:=hb1.size
    have hst:=Lib.hid (And.intro hlo hI2)
    clear hO hI hlo hI2
    go_wp2_with (first
     | (at_builtin;refine wpList_append_lies _ rfl _ _ 28 rfl w.heap.size 123 i0 (.int .u32 0) 1 4 Tryz.underlying28 hi hz0 hz1 hz2 rfl (by decide) _ _ _ rfl hO1.out.1 ⟨wr.heap.size,0,none⟩ 1 1 [.int .u32 (cy:Nat)] rfl rfl hnews hcl (by decide) hmx hby2 hbs _ rfl ?_;intro g cap w1 hown' hgrow _ hlt;have hP:=Lib.hid (hO1.out.pushed hcy hown' hgrow hbs);have hs5:=Lib.hid hP.out.1.sl_len;clear hown' hgrow)
     | (go_at_call 107;(with_reducible refine (za5 (v:=nval l+nval m) hs5.out (by rw [zad,hst.out.1,hst.out.2,hfin.out])).mono ?_);rintro e w2 ⟨n',rfl,hs4,rfl⟩)
     | fail "no arm")
    go_ret
    exact ⟨_,_,_,rfl,hs4,hb1.trans (hP.out.2.mono (Nat.le_refl _))⟩
theorem zp5 (n:Nat) (hn:n≤1000000):∀w,(Instr.makeSlice 28 (.int .i64 (n:Int)) (.int .i64 (n:Int))).run Tryz.prog w=.ok (.slice (some ⟨w.heap.size,0,none⟩) n n) (w.alloc (.cells (madeCells #[.int .u32 0] n) 123)):=
 run_make_row' (P:=Tryz.prog) 28 123 (.int .u32 0) 4 Tryz.underlying28 Tryz.infoU32 rfl .i64 .i64 n (by omega) (by omega)
theorem zws {cy d x y:Nat} (h1:cy<4294967296) (h2:d<4294967296) (hx:x<4294967296) (hy:y<4294967296) :
  ∃s:Nat,IntKind.u64.wrap ((cy:Int)+d+IntKind.u64.wrap ((x:Int)*y))=(s:Int)∧(s:Int)%4294967296=((mcD cy d x y:Nat):Int)∧(s:Int) / 4294967296=((mcC cy d x y:Nat):Int):=by
 have h:=zci hx hy
 have e:(x:Int)*y=((x*y:Nat):Int):=by simp
 rw [e]
 unfold mcD mcC
 generalize x*y=z at *
 refine ⟨cy+(d+z),?_,?_,?_⟩
 ·rw [IntKind.wrap_u64,IntKind.wrap_u64];omega
 ·omega
 ·omega
theorem zr1 (A A2:Option Addr) (n c n2 c2 B:Nat) (l m:List Nat) (w:World) (h:Sl w B A n c l) (h2:Sl w B A2 n2 c2 m) (hB:B≤w.heap.size) (hn:n≤1000) (hn2:n2≤1000) :
  Calls Tryz.prog 141 #[.slice A n c,.slice A2 n2 c2] w (RetD (nval l*nval m) w):=by
 have HL:=Lib.hid h.len
 have HL2:=Lib.hid h2.len
 have H:=Lib.hid h
 have H2:=Lib.hid h2
 clear h h2
 have hmk:=zp5 (n+n2) (by omega)
 have ec:((n+n2:Nat):Int)=(n:Int)+n2:=by omega
 rw [ec] at hmk
 clear ec
 go_enter Tryz.func141,Tryz.ntmps141
 go_wp2
 clear hmk
 go_loopw [6] (fun k wr=>∃(i:Nat) (o:List Nat),i≤n∧k=.int .i64 i∧DBk wr w.heap.size 123 o∧Hid (o.length=n+n2∧Dig o∧nval o=nval (l.take i)*nval m∧∀p,i+n2≤p→dg o p=0)∧Below w.heap.size w wr) (fun k _=>n - (intOf k).toNat)
 case atStart=>exact ⟨0,List.replicate (n+n2) 0,by omega,rfl,DBk.new w _ (n+n2),by unfold Hid;exact ⟨by simp,qO _,by simp [nval,zbM],fun p _=>by unfold dg;simp [List.getD_eq_getElem?_getD,List.getElem?_replicate];split<;>rfl⟩,by go_grown⟩
 case round =>
  obtain ⟨i,o,hi,rfl,hO,hI,hBw⟩:=hrel
  by_cases hlt:i<n
  ·obtain ⟨ad,rfl,hb,hc⟩:=(H.out.below (hBw.mono hB)).at_ (k:=i) hlt
   have hd1:=dg_lt H.out.dig i
   have hz:=hO.lt
   obtain ⟨x,hx⟩:∃x,dg l i=x:=⟨_,rfl⟩
   rw [hx] at hc hd1
   have HX:=Lib.hid hx
   clear hx
   go_wp2
   clear hc
   obtain ⟨wo,hwo⟩:∃wo:World,wo=wr:=⟨_,rfl⟩
   subst hwo
   go_loopw [7,8] (fun b k wr=>∃(j cy:Nat) (o:List Nat),j≤n2∧cy<4294967296∧k=.int .i64 j∧b=.int .u64 cy∧DBk wr w.heap.size 123 o∧Hid (o.length=n+n2∧Dig o∧nval o+4294967296 ^ (i+j)*cy=nval (l.take i)*nval m+4294967296 ^ i*x*nval (m.take j)∧∀p,i+n2≤p→dg o p=0)∧Below w.heap.size w wr) (fun _ k _=>n2 - (intOf k).toNat)
   case atStart=>exact ⟨0,0,o,by omega,by omega,rfl,rfl,hO,by obtain ⟨i1,i2,i3,i4⟩:=hI.out;unfold Hid;exact ⟨i1,i2,by simp [nval,i3],i4⟩,hBw⟩
   case round =>
    obtain ⟨j,cy,o,hj,hcy,rfl,rfl,hO,hI,hBw⟩:=hrel
    by_cases hlt2:j<n2
    ·obtain ⟨ad2,rfl,hb2,hc2⟩:=(H2.out.below (hBw.mono hB)).at_ (k:=j) hlt2
     have hd2:=dg_lt H2.out.dig j
     obtain ⟨ad',e,_,hc⟩:=(H.out.below (hBw.mono hB)).at_ (k:=i) hlt
     cases e
     rw [HX.out] at hc
     have hcg:=hO.cell (k:=i+j) (by rw [hI.out.1];omega)
     have hfg:=hO.frozen (i+j)
     have hd3:=dg_lt hI.out.2.1 (i+j)
     have hz2:=hO.lt
     obtain ⟨d,hd⟩:∃d,dg o (i+j)=d:=⟨_,rfl⟩
     obtain ⟨y,hy⟩:∃y,dg m j=y:=⟨_,rfl⟩
     rw [hd] at hcg hd3
     rw [hy] at hc2 hd2
     have hs:=zm9 hcy hd3 hd1 hd2
     have hN:Hid ((o.set (i+j) (mcD cy d x y)).length=n+n2∧Dig (o.set (i+j) (mcD cy d x y))∧nval (o.set (i+j) (mcD cy d x y))+4294967296 ^ (i+(j+1))*mcC cy d x y=nval (l.take i)*nval m+4294967296 ^ i*x*nval (m.take (j+1))∧∀p,i+n2≤p→dg (o.set (i+j) (mcD cy d x y)) p=0):=by
      obtain ⟨i1,i2,i3,i4⟩:=hI.out
      refine ⟨by simpa using i1,qk i2 hs.2.1,?_,fun p hp=>by rw [zaz (by omega)];exact i4 p hp⟩
      have hset:=zhG o (i+j) (mcD cy d x y) (by omega)
      rw [hd] at hset
      rw [zk m,hy,Nat.mul_add (4294967296 ^ i*x),← Nat.add_assoc (nval (l.take i)*nval m)]
      refine ziC (P:=4294967296 ^ i) (Nat.pow_succ (n:=4294967296) (m:=i+j)) hs.1 hset ?_ i3
      rw [Nat.pow_add,Nat.mul_assoc (4294967296 ^ i) (4294967296 ^ j),Nat.mul_assoc (4294967296 ^ i) x,Nat.mul_left_comm (4294967296 ^ j) x y]
     have hO2:=fun q=>DBk.set (show DBk (wr.drewN q) w.heap.size 123 o from hO) (i+j) (mcD cy d x y)
     obtain ⟨s,E,ed,ev⟩:=zws hcy hd3 hd1 hd2
     have hcy2:=hs.2.2
     obtain ⟨c',hc'⟩:∃c',mcC cy d x y=c':=⟨_,rfl⟩
     obtain ⟨d',hd'⟩:∃d',mcD cy d x y=d':=⟨_,rfl⟩
     rw [hc'] at ev hcy2 hN
     rw [hd'] at ed hO2 hN
     have hij:IntKind.i64.wrap ((i:Int)+j)=(i:Int)+j:=by rw [IntKind.wrap_i64];omega
     have hij0:(0:Int)≤(i:Int)+j:=by omega
     have hijn:((i:Int)+j).toNat=i+j:=by omega
     have hijl:(i:Int)+j<(n:Int)+n2:=by omega
     have wd:IntKind.u64.wrap (d:Int)=(d:Int):=by rw [IntKind.wrap_u64];omega
     have wx:IntKind.u64.wrap (x:Int)=(x:Int):=by rw [IntKind.wrap_u64];omega
     have wy:IntKind.u64.wrap (y:Int)=(y:Int):=by rw [IntKind.wrap_u64];omega
     clear hO hI hd hy hs hc' hd'
     go_upto_region 9 with fail
     go_quiet (fail)
     go_wp2
     go_roundw
     case rel=>exact ⟨j+1,_,_,by omega,hcy2,by go_num,rfl,hO2 _,hN,(zI hBw _).setCell (by simp) _⟩
     case measure=>simp [intOf];omega
    ·have hjn:j=n2:=by omega
     have hz2:=hO.lt
     have hN:Hid ((o.set (i+n2) cy).length=n+n2∧Dig (o.set (i+n2) cy)∧nval (o.set (i+n2) cy)=nval (l.take (i+1))*nval m∧∀p,(i+1)+n2≤p→dg (o.set (i+n2) cy) p=0):=by
      obtain ⟨i1,i2,i3,i4⟩:=hI.out
      refine ⟨by simpa using i1,qk i2 hcy,?_,fun p hp=>by rw [zaz (by omega)];exact i4 p (by omega)⟩
      have hset:=zhG o (i+n2) cy (by omega)
      rw [i4 _ (Nat.le_refl _),Nat.mul_zero,Nat.add_zero] at hset
      rw [hset,zk l,HX.out,Nat.add_mul,← hjn,i3]
      rw [List.take_of_length_le (l:=m) (by have:=HL2.out;omega)]
     have hO2:=hO.set (i+n2) cy
     have hcg:=hO.cell (k:=i+n2) (by rw [hI.out.1];omega)
     have hfg:=hO.frozen (i+n2)
     have ecy:IntKind.u64.wrap (cy:Int)=cy:=by rw [IntKind.wrap_u64];omega
     have ecy2:(cy:Int)%4294967296=cy:=by omega
     clear hO hI hjn
     go_wp2
     go_roundw
     case rel=>exact ⟨i+1,_,by omega,by go_num,hO2,hN,by go_grown⟩
     case measure=>simp [intOf];omega
  ·have hin:i=n:=by omega
   have hv:Hid (nval o=nval l*nval m):=by
    obtain ⟨i1,i2,i3,i4⟩:=hI.out
    rw [List.take_of_length_le (l:=l) (by have:=HL.out;omega)] at i3
    exact i3
   have hsl:Sl wr (w.heap.size+1) (some ⟨w.heap.size,0,none⟩) (n+n2) (n+n2) o:=by
    obtain ⟨i1,i2,i3,i4⟩:=hI.out
    have:=hO.sl i2 (B:=w.heap.size+1) (by omega) (by omega)
    rwa [i1] at this
   have hz:=hO.lt
   clear hin hO hI
   go_wp2_with (go_at_call 107;refine (za5 hsl hv.out).mono ?_;rintro e w' ⟨n',rfl,hs',rfl⟩)
   go_ret
   exact ⟨_,_,_,rfl,hs'.more (by omega),hBw⟩
def RetF (v:Nat) (w:World) (e:Ending) (w':World):Prop:=∃A n c,e=.returned (.slice A n c)∧Sl w' w'.heap.size A n c (digs v)∧Below w.heap.size w w'∧(∀ad,A=some ad→w.heap.size≤ad.block)
theorem OwnD.fresh {w:World} {base n c:Nat} {A:Option Addr} {l:List Nat} (h:OwnD w base (.slice A n c) l):∀ad,A=some ad→base≤ad.block:=by
 obtain ⟨A3,c3,he3,_,hf⟩:=h.sl
 obtain ⟨rfl,_,_⟩:=ze9 he3
 exact hf
theorem RetF.d {v:Nat} {w w':World} {e:Ending} (h:RetF v w e w'):RetD v w e w':=by
 obtain ⟨A,n,c,h1,h2,h3,_⟩:=h
 exact ⟨A,n,c,h1,h2,h3⟩
theorem zbl {l:List Nat} {n:Nat} (h:l.length=n):nval (l.drop n)=0:=by rw [List.drop_of_length_le (by omega)];rfl
theorem zaY {A A2:Option Addr} {n c n2 c2 B:Nat} {l m:List Nat} {w:World} (h:Sl w B A n c l) (h2:Sl w B A2 n2 c2 m) (hB:B≤w.heap.size) (hl:Canon l) (hm:Canon m) :
  Calls Tryz.prog 105 #[.slice A n c,.slice A2 n2 c2] w fun e w'=>e=.returned (.int .i64 (cmpv (nval l) (nval m)))∧Below w.heap.size w w':=by
 have HL:=h.len
 have HL2:=h2.len
 rcases Nat.lt_trichotomy n n2 with h3 | h3 | h3
 ·rw [q6 (qE hl.1 hm (by omega))]
  have h4:(n:Int)<n2:=by omega
  clear h h2 hl hm HL HL2
  go_enter Tryz.func105,Tryz.ntmps105
  go_wp2
  go_ret
  exact ⟨rfl,Below.refl _ _⟩
 ·subst h3
  have H:=Lib.hid (h.more hB)
  have H2:=Lib.hid (h2.more hB)
  have HC:=Lib.hid (And.intro hl.1 hm.1)
  have HLL:=Lib.hid (And.intro HL HL2)
  have hn63:(n:Int)≤9223372036854775807:=by have:=h.2;omega
  have H0:=Lib.hid (show nval (l.drop n)=nval (m.drop n) by rw [zbl HL,zbl HL2])
  clear h h2 hl hm HL HL2
  go_enter Tryz.func105,Tryz.ntmps105
  go_wp2_with fail
  go_loopw [5] (fun y W=>∃(j:Nat) (z:Int),j≤n∧y=.int .i64 z∧z=(j:Int) - 1∧Below w.heap.size w W∧Hid (nval (l.drop j)=nval (m.drop j))) (fun y _=>(intOf y+1).toNat)
  case atStart=>exact ⟨n,_,by omega,rfl,rfl,Below.refl _ _,H0⟩
  case round =>
   obtain ⟨j,z,hj,rfl,hz,hBB,hI⟩:=hrel
   cases j with
   | zero =>
    obtain rfl:z=-1:=by omega
    clear hz
    have h5:=hI.out
    rw [List.drop_zero,List.drop_zero] at h5
    have h6:=Lib.hid (show cmpv (nval l) (nval m)=0 by rw [h5,zdN])
    clear h5 hI
    go_wp2_with fail
    go_ret
    exact ⟨by rw [h6.out];rfl,hBB⟩
   | succ j =>
    obtain rfl:z=(j:Int):=by omega
    clear hz
    obtain ⟨ad,rfl,hb,hc⟩:=(H.out.below hBB).at_ (k:=j) (by omega)
    obtain ⟨ad2,rfl,hb2,hc2⟩:=(H2.out.below hBB).at_ (k:=j) (by omega)
    rcases Nat.lt_trichotomy (dg l j) (dg m j) with h5 | h5 | h5
    ·have HV:=Lib.hid (zdO HC.out.1 HC.out.2 (by have:=HLL.out;omega) (by have:=HLL.out;omega) hI.out (by omega))
     rw [q6 h5] at HV
     have h6:(dg l j:Int)<dg m j:=by omega
     clear h5 hI
     go_wp2_with fail
     go_quiet (fail)
     go_wp2_with fail
     go_ret
     exact ⟨by rw [← HV.out];rfl,zI hBB nq⟩
    ·have hN:=Lib.hid (show nval (l.drop j)=nval (m.drop j) by rw [zU l j,zU m j,hI.out,h5])
     rw [h5] at hc
     have h6:¬ (dg m j:Int)<dg m j:=by omega
     clear h5 hI
     go_wp2_with fail
     go_quiet (fail)
     go_wp2_with fail
     go_quiet (fail)
     go_wp2_with fail
     refine ⟨⟨j,_,by omega,rfl,rfl,zI hBB _,hN⟩,?_⟩
     simp [intOf]
    ·have HV:=Lib.hid (zdO HC.out.1 HC.out.2 (by have:=HLL.out;omega) (by have:=HLL.out;omega) hI.out (by omega))
     rw [zaw h5] at HV
     have h6:(dg m j:Int)<dg l j:=by omega
     have h7:¬ (dg l j:Int)<dg m j:=by omega
     clear h5 hI
     go_wp2_with fail
     go_quiet (fail)
     go_wp2_with fail
     go_quiet (fail)
     go_wp2_with fail
     go_ret
     exact ⟨by rw [← HV.out];rfl,zI (zI hBB _) _⟩
 ·rw [zaw (qE hm.1 hl (by omega))]
  have h4:(n2:Int)<n:=by omega
  clear h h2 hl hm HL HL2
  go_enter Tryz.func105,Tryz.ntmps105
  go_wp2
  go_ret
  exact ⟨rfl,Below.refl _ _⟩
theorem zmX {L O M P bw:Nat} (hO:O<P) (hle:M≤L) (hb:bw≤1) (h:L+P*bw=O+M):O=L - M:=by
 rcases (show bw=0∨bw=1 by omega) with rfl | rfl
 ·omega
 ·omega
theorem zix (A A2:Option Addr) (n c n2 c2 B:Nat) (l m:List Nat) (w:World) (h:Sl w B A n c l) (h2:Sl w B A2 n2 c2 m) (hB:B≤w.heap.size) (hn:n≤1000) (hn2:n2≤n) (hle:nval m≤nval l) :
  Calls Tryz.prog 134 #[.slice A n c,.slice A2 n2 c2] w (RetF (nval l - nval m) w):=by
 have HL:=Lib.hid h.len
 have HL2:=Lib.hid h2.len
 have H:=Lib.hid h
 have H2:=Lib.hid h2
 have HLE:=Lib.hid hle
 clear h h2 hle
 obtain ⟨i0,hi,hz0,hz1,hz2⟩:=info_parts Tryz.infoU32
 have AT:=Lib.hid (fun (W:World) (hW:Below w.heap.size w W) (k:Nat)=>zhj (k:=k) (H.out.below (hW.mono hB)))
 have AT2:=Lib.hid (fun (W:World) (hW:Below w.heap.size w W) (k:Nat)=>zhj (k:=k) (H2.out.below (hW.mono hB)))
 go_enter Tryz.func134,Tryz.ntmps134
 go_wp2_with fail
 go_loopw [5,6,7] (fun x y z W=>∃(k bw:Nat) (o:List Nat),k≤n∧bw≤1∧y=.int .u64 bw∧z=.int .i64 k∧Below w.heap.size w W∧Hid (OwnD W w.heap.size x o∧o.length=k∧nval (l.take k)+4294967296 ^ k*bw=nval o+nval (m.take k))) (fun _ _ z _=>n - (intOf z).toNat)
 case atStart=>exact ⟨0,0,[],by omega,by omega,rfl,rfl,Below.refl _ _,Lib.hid ⟨OwnD.nil _ _,rfl,by simp [nval]⟩⟩
 case round =>
  obtain ⟨k,bw,o,hk,hbw,rfl,rfl,hBB,hI⟩:=hrel
  have hd1:=dg_lt H.out.dig k
  have hd2:=dg_lt H2.out.dig k
  by_cases hlt:(k:Int)<n
  ·obtain ⟨s,hs⟩:∃s,4294967296+dg l k - dg m k - bw=s:=⟨_,rfl⟩
   have hs':s+dg m k+bw=4294967296+dg l k:=by omega
   obtain ⟨d,hsd⟩:∃d,s%4294967296=d:=⟨_,rfl⟩
   obtain ⟨b',hsb⟩:∃b',1 - s / 4294967296=b':=⟨_,rfl⟩
   have e1:(4294967296:Int)+(dg l k:Nat) - (dg m k:Nat) - (bw:Nat)=(s:Int):=by omega
   have ed:(s:Int)%4294967296=(d:Int):=by omega
   have ev:1 - (s:Int) / 4294967296=(b':Int):=by omega
   have hsl:s<8589934592:=by omega
   have hdl:d<4294967296:=by omega
   have hb1':b'≤1:=by omega
   have hdm:d+dg m k+bw=dg l k+4294967296*b':=by omega
   obtain ⟨hO,hlo,hI2⟩:=hI.out
   have hb0:Below wr.heap.size wr (wr.alloc (.cells #[.int .u32 (d:Nat)] 123)):=(Below.refl _ _).alloc (Nat.le_refl _) _
   have hb1:=hBB.trans (hb0.mono hBB.size)
   have hO1:=Lib.hid (hO.below hb0 (Nat.le_refl _))
   have hnews:∀j u,[Value.int .u32 (d:Nat)][j]?=some u→(wr.alloc (.cells #[.int .u32 (d:Nat)] 123)).cell? ((⟨wr.heap.size,0,none⟩:Addr).add j)=some u:=by
    intro j u hj
    match j,hj with
    | 0,hj=>simp at hj;subst hj;simp [Addr.add]
   have hcl:∀u∈[Value.int .u32 (d:Nat)],u.oneCell'=true:=by intro u hu;simp at hu;subst hu;rfl
   have hmx:o.length+1≤maxLen:=by unfold maxLen;omega
   have hby2:(o.length+1)*4≤140737488355328:=by omega
   have hbs:w.heap.size≤(wr.alloc (.cells #[.int .u32 (d:Nat)] 123)).heap.size:=hb1.size
   have hst:=Lib.hid (And.intro hlo (And.intro hI2 (And.intro hs hdm)))
   have tk1:Hid True:=trivial
   have tk2:Hid True:=trivial
   clear hO hI hs hsd hsb hdm hlo hI2 hs'
   go_wp2_with (first
    | (clear tk1;go_at_call 158;(with_reducible refine (AT.out _ hBB _).mono ?_);rintro e w1 ⟨rfl,rfl⟩)
    | (clear tk2;go_at_call 158;(with_reducible refine (AT2.out _ hBB _).mono ?_);rintro e w1 ⟨rfl,rfl⟩)
    | (at_builtin;go_loud (refine wpList_append_lies _ rfl _ _ 28 rfl w.heap.size 123 i0 (.int .u32 0) 1 4 Tryz.underlying28 hi hz0 hz1 hz2 rfl (by decide) _ _ _ rfl hO1.out.1 ⟨wr.heap.size,0,none⟩ 1 1 [.int .u32 (d:Nat)] rfl rfl hnews hcl (by decide) hmx hby2 hbs _ rfl ?_;intro g cap w1 hown' hgrow _ hlt;have hP:=Lib.hid (hO1.out.pushed hdl hown' hgrow hbs);clear hown' hgrow))
    | fail "no arm")
   refine ⟨⟨k+1,b',o++[d],by omega,by omega,rfl,rfl,hb1.trans (hP.out.2.mono (Nat.le_refl _)),Lib.hid ⟨hP.out.1,by rw [List.length_append,hst.out.1];rfl,?_⟩⟩,?_⟩
   ·rw [zad,hst.out.1,zk l,zk m]
    exact zih (Nat.pow_succ ..) hst.out.2.2.2 hst.out.2.1
   ·simp only [intOf]
    omega
  ·obtain rfl:k=n:=by omega
   have hfin:Hid (nval o=nval l - nval m):=by
    obtain ⟨hO,hlo,hI2⟩:=hI.out
    rw [List.take_of_length_le (by have:=HL.out;omega),List.take_of_length_le (by have:=HL2.out;omega)] at hI2
    have h5:=qz hO.2
    rw [hlo] at h5
    exact Lib.hid (zmX h5 HLE.out hbw hI2)
   obtain ⟨A4,c4,rfl,hs4,hfr⟩:=hI.out.1.sl
   replace hfr:=Lib.hid hfr
   go_wp2_with (first
    | (go_at_call 107;(with_reducible refine (za5 (v:=nval l - nval m) hs4 hfin.out).mono ?_);rintro e w2 ⟨n',rfl,hs5,rfl⟩)
    | fail "no arm")
   go_ret
   exact ⟨_,_,_,rfl,hs5,hBB,hfr.out⟩
theorem zb2 (A A2:Option Addr) (n c n2 c2 B:Nat) (l m:List Nat) (w:World) (h:Sl w B A n c l) (h2:Sl w B A2 n2 c2 m) (hB:B≤w.heap.size) (hn:n≤1000) (hn2:n2≤n) (hle:nval m≤nval l) :
  Calls Tryz.prog 134 #[.slice A n c,.slice A2 n2 c2] w (RetD (nval l - nval m) w):=
 (zix A A2 n c n2 c2 B l m w h h2 hB hn hn2 hle).mono fun _ _ h=>h.d
end Go.Proofs.YtjcegdldgjphiaaGreatDoor
namespace Go.Proofs.YtjcegdldgjphiaaGreatDoor
def blen (v:Nat):Nat:=if v=0 then 0 else blen (v / 2)+1
theorem zpp:blen 0=0:=by rw [blen];rfl
theorem zpq {v:Nat} (h:v≠0):blen v=blen (v / 2)+1:=by rw [blen,if_neg h]
theorem ztM:∀v,v<2 ^ blen v:=by
 intro v
 induction v using Nat.strongRecOn with
 | ind v ih =>
  by_cases h:v=0
  ·subst h;rw [zpp];simp
  ·rw [zpq h,Nat.pow_succ]
   have:=ih (v / 2) (by omega)
   omega
theorem zse:∀v,v≠0→2 ^ (blen v - 1)≤v:=by
 intro v
 induction v using Nat.strongRecOn with
 | ind v ih =>
  intro h
  rw [zpq h,Nat.add_sub_cancel]
  by_cases h2:v / 2=0
  ·rw [h2,zpp];simp;omega
  ·have h3:=ih (v / 2) (by omega) h2
   have h4:blen (v / 2)=(blen (v / 2) - 1)+1:=by rw [zpq h2];rfl
   rw [h4,Nat.pow_succ]
   omega
theorem ztK {v k:Nat} (h:v<2 ^ k):blen v≤k:=by
 by_cases h0:v=0
 ·subst h0;rw [zpp];omega
 ·rcases Nat.lt_or_ge k (blen v) with h2 | h2
  ·have h3:=zse v h0
   have h4:2 ^ k≤2 ^ (blen v - 1):=Nat.pow_le_pow_right (by omega) (by omega)
   omega
  ·exact h2
theorem zsU:∀(k r t:Nat),r<2 ^ k→t≠0→blen (r+2 ^ k*t)=k+blen t:=by
 intro k
 induction k with
 | zero=>(intro r t hr _;rw [Nat.pow_zero] at hr;obtain rfl:r=0:=by omega);simp
 | succ k ih =>
  intro r t hr ht
  rw [Nat.pow_succ] at hr
  have h1:2 ^ (k+1)*t=2*(2 ^ k*t):=by rw [Nat.pow_succ,Nat.mul_comm (2 ^ k) 2,Nat.mul_assoc]
  have hp:0<2 ^ k*t:=Nat.mul_pos (Nat.pow_pos (by omega)) (by omega)
  have h2:(r+2 ^ (k+1)*t) / 2=r / 2+2 ^ k*t:=by rw [h1];omega
  rw [zpq (by rw [h1];omega),h2,ih (r / 2) t (by omega) ht]
  omega
theorem p32 (k:Nat):4294967296 ^ k=2 ^ (32*k):=by rw [show (4294967296:Nat)=2 ^ 32 from rfl,← Nat.pow_mul]
theorem ztL {l:List Nat} {n:Nat} (hl:Dig l) (hn:l.length=n+1) (ht:dg l n≠0):blen (nval l)=32*n+blen (dg l n):=by
 have h1:=zk l n
 rw [List.take_of_length_le (by omega)] at h1
 have h2:=qz (zaP hl n)
 rw [List.length_take,Nat.min_eq_left (by omega),p32] at h2
 rw [h1,p32]
 exact zsU _ _ _ h2 ht
theorem ztP {l:List Nat} {n:Nat} (h:Canon l) (hn:l.length=n+1):dg l n≠0:=by
 intro h0
 apply h.2
 rw [List.getLast?_eq_getElem?,hn]
 show l[n]?=some 0
 rw [List.getElem?_eq_getElem (by omega)]
 rw [zay (by omega)] at h0
 rw [h0]
theorem zsD {l:List Nat} (hl:Dig l) (k:Nat):dg l k=nval l / 4294967296 ^ k%4294967296:=by
 have h1:=zU l k
 have h2:=dg_lt hl k
 rcases Nat.lt_or_ge l.length k with h | h
 ·rw [zcr (by omega),Nat.div_eq_of_lt (Nat.lt_of_lt_of_le (qz hl) (Nat.pow_le_pow_right (by omega) (by omega)))]
 ·have h3:=zaS l h
  have h4:=qz (zaP hl k)
  rw [List.length_take,Nat.min_eq_left h] at h4
  rw [h3,Nat.add_mul_div_left _ _ (Nat.pow_pos (by omega)),Nat.div_eq_of_lt h4,Nat.zero_add,h1]
  omega
theorem zvr {l:List Nat} (hl:Dig l) (k:Nat):dg l (k / 32) / 2 ^ (k%32)%2=nval l / 2 ^ k%2:=by
 rw [zsD hl,p32]
 have e:2 ^ k=2 ^ (32*(k / 32))*2 ^ (k%32):=by rw [← Nat.pow_add,Nat.div_add_mod]
 rw [e,← Nat.div_div_eq_div_mul]
 obtain ⟨X,hX⟩:∃X,nval l / 2 ^ (32*(k / 32))=X:=⟨_,rfl⟩
 rw [hX]
 have h1:k%32<32:=Nat.mod_lt _ (by omega)
 obtain ⟨j,hj⟩:∃j,k%32=j:=⟨_,rfl⟩
 rw [hj] at h1 ⊢
 have e2:(4294967296:Nat)=2 ^ j*2 ^ (32 - j):=by rw [← Nat.pow_add,show j+(32 - j)=32 by omega]
 rw [e2,Nat.mod_mul_right_div_self]
 have e3:2 ^ (32 - j)=2*2 ^ (31 - j):=by rw [← Nat.pow_succ',show (31 - j).succ=32 - j by omega]
 rw [e3,Nat.mod_mul_right_mod]
theorem zwx {l:List Nat} (hl:Dig l) (k:Nat):dg l k+dg l (k+1)*4294967296=nval l / 4294967296 ^ k%(4294967296*4294967296):=by
 rw [zsD hl,zsD hl,Nat.pow_succ,← Nat.div_div_eq_div_mul,Nat.mod_mul,Nat.mul_comm]
theorem ztI {l:List Nat} (hl:Dig l) (k j r:Nat) (hr:r<32):(dg l (k+j)+dg l (k+j+1)*4294967296) / 2 ^ r%4294967296=nval l / 2 ^ (32*k+r) / 4294967296 ^ j%4294967296:=by
 rw [zwx hl]
 obtain ⟨X,hX⟩:∃X,nval l / 4294967296 ^ (k+j)=X:=⟨_,rfl⟩
 have e1:nval l / 2 ^ (32*k+r) / 4294967296 ^ j=X / 2 ^ r:=by
  rw [← hX,Nat.div_div_eq_div_mul,Nat.div_div_eq_div_mul,Nat.pow_add,Nat.pow_add,p32 k,Nat.mul_assoc,Nat.mul_assoc,Nat.mul_comm (2 ^ r)]
 rw [e1,hX]
 have e2:(4294967296*4294967296:Nat)=2 ^ r*(4294967296*2 ^ (32 - r)):=by
  rw [Nat.mul_left_comm,← Nat.pow_add,show r+(32 - r)=32 by omega]
 rw [e2,Nat.mod_mul_right_div_self,Nat.mod_mul_right_mod]
theorem zu2 (V P:Nat):V%P+P*(V / P%4294967296)=V%(P*4294967296):=(Nat.mod_mul).symm
theorem zsx {l:List Nat} {n s r:Nat} (hl:Dig l) (hn:l.length=n):nval l / 2 ^ (32*s+r)<4294967296 ^ (n - s):=by
 have h1:=qz hl
 rw [hn] at h1
 apply Nat.div_lt_of_lt_mul
 have h2:4294967296 ^ n≤2 ^ (32*s+r)*4294967296 ^ (n - s):=by
  rw [p32,p32,← Nat.pow_add]
  exact Nat.pow_le_pow_right (by omega) (by omega)
 omega
theorem zwv (x b:Nat) (hb:b≤1):(2*x) ||| b=2*x+b:=by
 rcases (show b=0∨b=1 by omega) with rfl | rfl
 ·simp
 ·have:=Nat.shiftLeft_add_eq_or_of_lt (i:=1) (b:=1) (by omega) x
  rw [Nat.shiftLeft_eq,Nat.pow_one,Nat.mul_comm] at this
  exact this.symm
theorem zww {x j:Nat} (h:x%2 ^ (j+1)=0):x ||| 2 ^ j=x+2 ^ j:=by
 have e:x=(x / 2 ^ (j+1))*2 ^ (j+1):=by have:=Nat.div_add_mod x (2 ^ (j+1));rw [h,Nat.add_zero,Nat.mul_comm] at this;exact this.symm
 have h2:2 ^ j<2 ^ (j+1):=Nat.pow_lt_pow_right (by omega) (by omega)
 have:=Nat.shiftLeft_add_eq_or_of_lt h2 (x / 2 ^ (j+1))
 rw [Nat.shiftLeft_eq,← e] at this
 exact this.symm
theorem zwm {l:List Nat} (hl:Dig l) {Z k:Nat} (h:nval l=Z*2 ^ (k+1)):dg l (k / 32)%2 ^ (k%32+1)=0:=by
 rw [zsD hl,p32,h]
 have h1:k%32<32:=Nat.mod_lt _ (by omega)
 have e:2 ^ (k+1)=2 ^ (32*(k / 32))*2 ^ (k%32+1):=by rw [← Nat.pow_add];congr 1;omega
 rw [e,Nat.mul_left_comm,Nat.mul_div_cancel_left _ (Nat.pow_pos (by omega))]
 have e2:(4294967296:Nat)=2 ^ (k%32+1)*2 ^ (31 - k%32):=by rw [← Nat.pow_add,show k%32+1+(31 - k%32)=32 by omega]
 rw [e2,Nat.mod_mul_right_mod,Nat.mul_mod_left]
theorem zu3 {x k:Nat} (hx:x<4294967296) (h:x%2 ^ (k%32+1)=0):x+2 ^ (k%32)<4294967296:=by
 have h1:k%32<32:=Nat.mod_lt _ (by omega)
 obtain ⟨j,hj⟩:∃j,k%32=j:=⟨_,rfl⟩
 rw [hj] at h h1 ⊢
 have e2:(4294967296:Nat)=2 ^ (j+1)*2 ^ (31 - j):=by rw [← Nat.pow_add,show j+1+(31 - j)=32 by omega]
 have e:x=2 ^ (j+1)*(x / 2 ^ (j+1)):=by have:=Nat.div_add_mod x (2 ^ (j+1));omega
 have h3:x / 2 ^ (j+1)<2 ^ (31 - j):=by
  apply Nat.div_lt_of_lt_mul
  omega
 have h4:2 ^ (j+1)*(x / 2 ^ (j+1)+1)≤2 ^ (j+1)*2 ^ (31 - j):=Nat.mul_le_mul_left _ h3
 rw [Nat.mul_add,Nat.mul_one] at h4
 have h5:2 ^ j<2 ^ (j+1):=Nat.pow_lt_pow_right (by omega) (by omega)
 omega
theorem zt6 (k:Nat):4294967296 ^ (k / 32)*2 ^ (k%32)=2 ^ k:=by rw [p32,← Nat.pow_add,Nat.div_add_mod]
theorem zvz {V k:Nat}:V / 2 ^ k=2*(V / 2 ^ (k+1))+V / 2 ^ k%2:=by
 rw [Nat.pow_succ,← Nat.div_div_eq_div_mul];omega
theorem zu4 {A W b:Nat} (hb:b≤1) (hW:0<W) :
  (W≤2*(A%W)+b→(2*A+b) / W=2*(A / W)+1∧(2*A+b)%W=2*(A%W)+b - W)∧(2*(A%W)+b<W→(2*A+b) / W=2*(A / W)∧(2*A+b)%W=2*(A%W)+b):=by
 have h1:=Nat.div_add_mod A W
 have h2:=Nat.mod_lt A hW
 obtain ⟨q,hq⟩:∃q,A / W=q:=⟨_,rfl⟩
 obtain ⟨r,hr⟩:∃r,A%W=r:=⟨_,rfl⟩
 rw [hq,hr] at h1
 rw [hr] at h2
 rw [hq,hr]
 constructor
 ·intro h3
  have e:2*A+b=(2*r+b - W)+W*(2*q+1):=by
   rw [Nat.mul_add,Nat.mul_left_comm,Nat.mul_one];omega
  rw [e]
  refine ⟨?_,?_⟩
  ·rw [Nat.add_mul_div_left _ _ hW,Nat.div_eq_of_lt (by omega)];omega
  ·rw [Nat.add_mul_mod_self_left,Nat.mod_eq_of_lt (by omega)]
 ·intro h3
  have e:2*A+b=(2*r+b)+W*(2*q):=by rw [Nat.mul_left_comm];omega
  rw [e]
  refine ⟨?_,?_⟩
  ·rw [Nat.add_mul_div_left _ _ hW,Nat.div_eq_of_lt h3];omega
  ·rw [Nat.add_mul_mod_self_left,Nat.mod_eq_of_lt h3]
theorem zu6 {V W f:Nat} (hW:W≠0) (h:blen V=blen W+f):V / 2 ^ (f+1)<W:=by
 apply Nat.div_lt_of_lt_mul
 have h1:=ztM V
 have h2:=zse W hW
 have h3:2 ^ blen V≤2 ^ (f+1)*W:=by
  have e:blen V=(f+1)+(blen W - 1):=by have:=zpq hW;omega
  rw [e,Nat.pow_add]
  exact Nat.mul_le_mul_left _ h2
 omega
theorem zsT {V W:Nat} (h:blen V<blen W):V<W:=by
 have h1:=ztM V
 have hW:W≠0:=fun e=>by rw [e,zpp] at h;omega
 have h2:=zse W hW
 have h3:2 ^ blen V≤2 ^ (blen W - 1):=Nat.pow_le_pow_right (by omega) (by omega)
 omega
end Go.Proofs.YtjcegdldgjphiaaGreatDoor
namespace Go.Proofs.YtjcegdldgjphiaaGreatDoor
open Go.RowKit Go.Shelf
theorem zvp (y:Nat) (hy:y<4294967296):bits .and .u32 (y:Int) 1=((y%2:Nat):Int):=by
 have e:(BitVec.ofInt 32 (y:Int)).toNat=y:=by rw [BitVec.ofInt_natCast,BitVec.toNat_ofNat];exact Nat.mod_eq_of_lt (by omega)
 show IntKind.u32.wrap ((BitVec.ofInt 32 (y:Int) &&& BitVec.ofInt 32 (1:Int)).toNat:Int)=_
 rw [BitVec.toNat_and,e,show (BitVec.ofInt 32 (1:Int)).toNat=1 from rfl,Nat.and_one_is_mod,IntKind.wrap_u32]
 omega
theorem zvq {A:Option Addr} {n c B:Nat} {l:List Nat} {w:World} (k:Nat) (h:Sl w B A n c l) (hk:k / 32<n) :
  Calls Tryz.prog 133 #[.slice A n c,.int .i64 (k:Int)] w fun e w'=>e=.returned (.int .u32 ((nval l / 2 ^ k%2:Nat):Int))∧w=w':=by
 have hv:=Lib.hid (zvr h.dig k)
 obtain ⟨s,hs⟩:∃s,k / 32=s:=⟨_,rfl⟩
 obtain ⟨r,hr⟩:∃r,k%32=r:=⟨_,rfl⟩
 rw [hs] at hk
 rw [hs,hr] at hv
 obtain ⟨ad,rfl,hb,hc⟩:=h.at_ (k:=s) hk
 have hd:=dg_lt h.dig s
 obtain ⟨x,hx⟩:∃x,dg l s=x:=⟨_,rfl⟩
 rw [hx] at hc hd hv
 obtain ⟨y,hy⟩:∃y,x / 2 ^ r=y:=⟨_,rfl⟩
 rw [hy] at hv
 have hyl:y<4294967296:=by rw [← hy];exact Nat.lt_of_le_of_lt (Nat.div_le_self _ _) hd
 have e0:(k:Int) / 32=(s:Int):=by omega
 have e1:(k:Int)%32=(r:Int):=by omega
 have e2:(x:Int) / 2 ^ r=(y:Int):=by rw [← hy];simp
 have e3:=zvp y hyl
 have hr32:r<32:=by omega
 have hs63:(s:Int)≤9223372036854775807:=by have:=h.2;omega
 rw [← hv.out]
 clear h hs hr hx hy hv
 go_enter Tryz.func133,Tryz.ntmps133
 go_wp2_with fail
 go_ret
 exact ⟨rfl,rfl⟩
theorem zpz {A:Option Addr} {n c B:Nat} {l:List Nat} {w:World} (h:Sl w B A n c l) (hl:Canon l) (hn:n≤1000) :
  Calls Tryz.prog 130 #[.slice A n c] w fun e w'=>e=.returned (.int .i64 (blen (nval l):Nat))∧w=w':=by
 have HL:=h.len
 cases n with
 | zero =>
  obtain rfl:=List.eq_nil_of_length_eq_zero HL
  rw [show blen (nval [])=0 from zpp]
  clear h hl HL
  go_enter Tryz.func130,Tryz.ntmps130
  go_wp2_with fail
  go_ret
  exact ⟨rfl,rfl⟩
 | succ n =>
  rw [ztL hl.1 HL (ztP hl HL)]
  obtain ⟨ad,rfl,hb,hc⟩:=h.at_ (k:=n) (by omega)
  have hd:=dg_lt h.dig n
  obtain ⟨x,hx⟩:∃x,dg l n=x:=⟨_,rfl⟩
  rw [hx] at hc hd ⊢
  clear h hl HL hx hb
  have hbx:=ztK (show x<2 ^ 32 from hd)
  obtain ⟨b,hbb⟩:∃b,blen x=b:=⟨_,rfl⟩
  have HBB:=Lib.hid hbb
  rw [hbb] at hbx ⊢
  clear hbb
  go_enter Tryz.func130,Tryz.ntmps130
  go_wp2_with fail
  go_loopw [3,4] (fun y z W=>∃(u v:Nat),v<4294967296∧u≤32*n+32∧y=.int .i64 u∧z=.int .u32 v∧w=W∧Hid (u+blen v=32*n+b)) (fun _ z _=>(intOf z).toNat)
  case atStart=>exact ⟨32*n,x,hd,by omega,by go_num,rfl,rfl,Lib.hid (by rw [HBB.out])⟩
  case round =>
   obtain ⟨u,v,hv,hu,rfl,rfl,rfl,hI⟩:=hrel
   by_cases h0:v=0
   ·subst h0
    have hI':=hI.out
    rw [zpp,Nat.add_zero] at hI'
    subst hI'
    go_wp2_with fail
    go_ret
    exact ⟨rfl,rfl⟩
   ·have hpos:(0:Int)<v:=by omega
    have hI':=hI.out
    rw [zpq h0] at hI'
    have hu2:u+1≤32*n+32:=by omega
    have hN:=Lib.hid (show (u+1)+blen (v / 2)=32*n+b by omega)
    obtain ⟨v2,hv2⟩:∃v2,v / 2=v2:=⟨_,rfl⟩
    rw [hv2] at hN
    have hl2:v2<4294967296:=by omega
    have hm2:v2<v:=by omega
    have e2:(v:Int) / 2=(v2:Int):=by omega
    clear hI hI' h0 hv2
    go_wp2_with fail
    refine ⟨⟨u+1,v2,hl2,hu2,by go_num,rfl,trivial,hN⟩,?_⟩
    simp [intOf];omega
theorem zqx {A:Option Addr} {n c B:Nat} {l:List Nat} {w:World} (h:Sl w B A n c l) (hn:n≤2) :
  Calls Tryz.prog 129 #[.slice A n c] w fun e w'=>e=.returned (.int .u64 (nval l:Nat))∧w=w':=by
 have H:=Lib.hid h
 have HL:=Lib.hid h.len
 clear h
 go_enter Tryz.func129,Tryz.ntmps129
 go_wp2_with fail
 go_loopw [3,4] (fun y z W=>∃(k v:Nat),k≤n∧y=.int .u64 v∧z=.int .i64 k∧w=W∧Hid (v=nval (l.take k))) (fun _ z _=>n - (intOf z).toNat)
 case atStart=>exact ⟨0,0,by omega,rfl,rfl,rfl,Lib.hid rfl⟩
 case round =>
  obtain ⟨k,v,hk,rfl,rfl,rfl,hI⟩:=hrel
  by_cases hlt:k<n
  ·obtain ⟨ad,rfl,hb,hc⟩:=H.out.at_ (k:=k) hlt
   have hd:=dg_lt H.out.dig k
   have hv:=qz (zaP H.out.dig k)
   rw [List.length_take,Nat.min_eq_left (by have:=HL.out;omega),← hI.out] at hv
   have hN:=Lib.hid (zk l k)
   obtain ⟨x,hx⟩:∃x,dg l k=x:=⟨_,rfl⟩
   rw [hx,← hI.out] at hN
   rw [hx] at hc hd
   clear hx
   obtain ⟨s,hs⟩:∃s,32*k=s:=⟨_,rfl⟩
   obtain ⟨y,hy⟩:∃y,x*2 ^ s=y:=⟨_,rfl⟩
   have hy2:4294967296 ^ k*x=y:=by rw [p32,hs,Nat.mul_comm,hy]
   rw [hy2] at hN
   have hsum:v+y<18446744073709551616:=by
    rcases (show k=0∨k=1 by omega) with rfl | rfl
    ·rw [Nat.pow_zero] at hv hy2;omega
    ·rw [Nat.pow_one] at hv hy2;omega
   have hs32:s≤32:=by omega
   have e1:(32:Int)*k=(s:Int):=by omega
   have e2:(x:Int)*2 ^ s=(y:Int):=by rw [← hy];simp
   have hm:(v:Int)+y<18446744073709551616:=by omega
   have hk2:(k:Int)<2:=by omega
   clear hs hy hy2 hv hI hsum
   go_wp2_with fail
   refine ⟨⟨k+1,v+y,by omega,by go_num,by go_num,trivial,Lib.hid hN.out.symm⟩,?_⟩
   simp only [intOf]
   omega
  ·have hv:Hid (v=nval l):=by
    have:=hI.out
    rw [List.take_of_length_le (by have:=HL.out;omega)] at this
    exact Lib.hid this
   clear hI
   go_wp2_with fail
   go_ret
   exact ⟨by rw [← hv.out];rfl,rfl⟩
theorem zeh (v:Nat) (w:World) (hv:v<18446744073709551616) :
  Calls Tryz.prog 91 #[.int .u64 v] w (RetD v w):=by
 obtain ⟨a,ha⟩:∃a,v%4294967296=a:=⟨_,rfl⟩
 obtain ⟨b,hb⟩:∃b,v / 4294967296=b:=⟨_,rfl⟩
 have e1:(v:Int)%4294967296=(a:Int):=by omega
 have e2:(v:Int) / 4294967296=(b:Int):=by omega
 have hal:a<4294967296:=by omega
 have hbl:b<4294967296:=by omega
 have d1:DBk (w.alloc (.cells #[.int .u32 (a:Nat),.int .u32 (b:Nat)] 123)) w.heap.size 123 [a,b]:=zy w _ _ rfl
 have hs:Hid (Sl _ _ (some ⟨w.heap.size,0,none⟩) 2 2 [a,b]):=Lib.hid (d1.sl (B:=(w.alloc (.cells #[.int .u32 (a:Nat),.int .u32 (b:Nat)] 123)).heap.size) (by intro x hx;simp at hx;omega) (by simp) (by simp))
 have hn:=Lib.hid (show nval [a,b]=v by simp [nval];omega)
 clear ha hb d1
 go_enter Tryz.func91,Tryz.ntmps91
 go_wp2_with (go_at_call 107;go_loud ((with_reducible refine (za5 hs.out hn.out).mono ?_);rintro e w2 ⟨n',rfl,hs5,rfl⟩))
 go_ret
 exact ⟨_,_,_,rfl,hs5,by go_grown⟩
theorem zvZ {O P P' T bk v d b' b:Nat} (hp:P'=P*4294967296) (hv:v+4294967296*b'=2*d+bk) (h:O+P*bk=2*T+b):O+P*v+P'*b'=2*(T+P*d)+b:=by
 subst hp
 have:P*(v+4294967296*b')=P*(2*d+bk):=by rw [hv]
 simp only [Nat.mul_add,← Nat.mul_assoc] at this
 rw [Nat.mul_add,show 2*(P*d)=P*2*d by rw [← Nat.mul_assoc,Nat.mul_comm 2 P]]
 omega
theorem zvs {u bk:Nat} (hu:u<4294967296) (h2:u%2=0) (hb:bk≤1):bits .or .u32 (u:Int) (bk:Int)=((u+bk:Nat):Int):=by
 rw [bor32 u bk hu (by omega)]
 have e:u=2*(u / 2):=by omega
 rw [e,zwv (u / 2) bk hb]
theorem zue {A:Option Addr} {n c B:Nat} {l:List Nat} {w:World} (b:Nat) (h:Sl w B A n c l) (hB:B≤w.heap.size) (hn:n≤1000) (hb:b≤1) :
  Calls Tryz.prog 132 #[.slice A n c,.int .u32 b] w (RetF (2*nval l+b) w):=by
 have HL:=Lib.hid h.len
 have H:=Lib.hid h
 clear h
 obtain ⟨i0,hi,hz0,hz1,hz2⟩:=info_parts Tryz.infoU32
 go_enter Tryz.func132,Tryz.ntmps132
 go_wp2_with fail
 go_loopw [1,5,6] (fun y x z W=>∃(k bk:Nat) (o:List Nat),k≤n∧bk≤1∧y=.int .u32 bk∧z=.int .i64 k∧Below w.heap.size w W∧Hid (OwnD W w.heap.size x o∧o.length=k∧nval o+4294967296 ^ k*bk=2*nval (l.take k)+b)) (fun _ _ z _=>n - (intOf z).toNat)
 case atStart=>exact ⟨0,b,[],by omega,hb,rfl,rfl,Below.refl _ _,Lib.hid ⟨OwnD.nil _ _,rfl,by simp [nval]⟩⟩
 case round =>
  obtain ⟨k,bk,o,hk,hbk,rfl,rfl,hBB,hI⟩:=hrel
  by_cases hlt:(k:Int)<n
  ·obtain ⟨ad,rfl,hab,hc⟩:=(H.out.below (hBB.mono hB)).at_ (k:=k) (by omega)
   have hd1:=dg_lt H.out.dig k
   have HD:=Lib.hid (zk l k)
   have HC2:=Lib.hid (fun (W:World) (hW:Below w.heap.size w W)=>(H.out.below (hW.mono hB)).at_ (k:=k) (by omega))
   obtain ⟨d,hd⟩:∃d,dg l k=d:=⟨_,rfl⟩
   rw [hd] at hc hd1 HD HC2
   obtain ⟨u,hu⟩:∃u,2*d%4294967296=u:=⟨_,rfl⟩
   obtain ⟨v,hv⟩:∃v,u+bk=v:=⟨_,rfl⟩
   obtain ⟨b',hb'⟩:∃b',d / 2147483648=b':=⟨_,rfl⟩
   have e1:((d:Int)*2)%4294967296=(u:Int):=by omega
   have e2:=zvs (u:=u) (bk:=bk) (by omega) (by omega) hbk
   rw [hv] at e2
   have e3:(d:Int) / 2147483648=(b':Int):=by omega
   have hb1':b'≤1:=by omega
   have hdl:v<4294967296:=by omega
   have hdm:v+4294967296*b'=2*d+bk:=by omega
   obtain ⟨hO,hlo,hI2⟩:=hI.out
   have hb0:Below wr.heap.size wr (wr.alloc (.cells #[.int .u32 (v:Nat)] 123)):=(Below.refl _ _).alloc (Nat.le_refl _) _
   have hb1:=hBB.trans (hb0.mono hBB.size)
   have hO1:=Lib.hid (hO.below hb0 (Nat.le_refl _))
   have hnews:∀j u,[Value.int .u32 (v:Nat)][j]?=some u→(wr.alloc (.cells #[.int .u32 (v:Nat)] 123)).cell? ((⟨wr.heap.size,0,none⟩:Addr).add j)=some u:=by
    intro j u hj
    match j,hj with
    | 0,hj=>simp at hj;subst hj;simp [Addr.add]
   have hcl:∀u∈[Value.int .u32 (v:Nat)],u.oneCell'=true:=by intro u hu;simp at hu;subst hu;rfl
   have hmx:o.length+1≤maxLen:=by unfold maxLen;omega
   have hby2:(o.length+1)*4≤140737488355328:=by omega
   have hbs:w.heap.size≤(wr.alloc (.cells #[.int .u32 (v:Nat)] 123)).heap.size:=hb1.size
   have hst:=Lib.hid (And.intro hlo (And.intro hI2 hdm))
   clear hO hI hu hv hb' hdm hlo hI2 hd
   go_wp2_with (first
    | (at_builtin;go_loud (refine wpList_append_lies _ rfl _ _ 28 rfl w.heap.size 123 i0 (.int .u32 0) 1 4 Tryz.underlying28 hi hz0 hz1 hz2 rfl (by decide) _ _ _ rfl hO1.out.1 ⟨wr.heap.size,0,none⟩ 1 1 [.int .u32 (v:Nat)] rfl rfl hnews hcl (by decide) hmx hby2 hbs _ rfl ?_;intro g cap w1 hown' hgrow _ hlt;have hP:=Lib.hid (hO1.out.pushed hdl hown' hgrow hbs);obtain ⟨ad3,ea3,hab3,hc3⟩:=HC2.out _ (hb1.trans (hP.out.2.mono (Nat.le_refl _)));cases ea3;clear hown' hgrow))
    | fail "no arm")
   refine ⟨⟨k+1,b',o++[v],by omega,hb1',rfl,by go_num,hb1.trans (hP.out.2.mono (Nat.le_refl _)),Lib.hid ⟨hP.out.1,by rw [List.length_append,hst.out.1];rfl,?_⟩⟩,?_⟩
   ·rw [zad,hst.out.1,HD.out]
    exact zvZ (Nat.pow_succ ..) hst.out.2.2 hst.out.2.1
   ·simp only [intOf]
    omega
  ·obtain rfl:k=n:=by omega
   have hfin:Hid (nval (o++[bk])=2*nval l+b):=by
    obtain ⟨hO,hlo,hI2⟩:=hI.out
    rw [List.take_of_length_le (by have:=HL.out;omega)] at hI2
    rw [zad,hlo]
    exact Lib.hid hI2
   obtain ⟨hO,hlo,hI2⟩:=hI.out
   have hbl:bk<4294967296:=by omega
   have hb0:Below wr.heap.size wr (wr.alloc (.cells #[.int .u32 (bk:Nat)] 123)):=(Below.refl _ _).alloc (Nat.le_refl _) _
   have hb1:=hBB.trans (hb0.mono hBB.size)
   have hO1:=Lib.hid (hO.below hb0 (Nat.le_refl _))
   have hnews:∀j u,[Value.int .u32 (bk:Nat)][j]?=some u→(wr.alloc (.cells #[.int .u32 (bk:Nat)] 123)).cell? ((⟨wr.heap.size,0,none⟩:Addr).add j)=some u:=by
    intro j u hj
    match j,hj with
    | 0,hj=>simp at hj;subst hj;simp [Addr.add]
   have hcl:∀u∈[Value.int .u32 (bk:Nat)],u.oneCell'=true:=by intro u hu;simp at hu;subst hu;rfl
   have hmx:o.length+1≤maxLen:=by unfold maxLen;omega
   have hby2:(o.length+1)*4≤140737488355328:=by omega
   have hbs:w.heap.size≤(wr.alloc (.cells #[.int .u32 (bk:Nat)] 123)).heap.size:=hb1.size
   clear hO hI hlo hI2
   go_wp2_with (first
    | (at_builtin;go_loud (refine wpList_append_lies _ rfl _ _ 28 rfl w.heap.size 123 i0 (.int .u32 0) 1 4 Tryz.underlying28 hi hz0 hz1 hz2 rfl (by decide) _ _ _ rfl hO1.out.1 ⟨wr.heap.size,0,none⟩ 1 1 [.int .u32 (bk:Nat)] rfl rfl hnews hcl (by decide) hmx hby2 hbs _ rfl ?_;intro g cap w1 hown' hgrow _ hlt;have hP:=Lib.hid (hO1.out.pushed hbl hown' hgrow hbs);have hs5:=Lib.hid hP.out.1.sl_len;have hfr:=Lib.hid hP.out.1.fresh;clear hown' hgrow))
    | (go_at_call 107;(with_reducible refine (za5 (v:=2*nval l+b) hs5.out hfin.out).mono ?_);rintro e w2 ⟨n',rfl,hs4,rfl⟩)
    | fail "no arm")
   go_ret
   exact ⟨_,_,_,rfl,hs4,hb1.trans (hP.out.2.mono (Nat.le_refl _)),hfr.out⟩
theorem zsw {A:Option Addr} {n c B:Nat} {l:List Nat} {w:World} (f:Nat) (h:Sl w B A n c l) (hB:B≤w.heap.size) (hn:n≤1000) (hf:f≤100000) :
  Calls Tryz.prog 131 #[.slice A n c,.int .i64 f] w (RetF (nval l / 2 ^ f) w):=by
 have HL:=Lib.hid h.len
 have H:=Lib.hid h
 clear h
 obtain ⟨i0,hi,hz0,hz1,hz2⟩:=info_parts Tryz.infoU32
 have AT:=Lib.hid (fun (W:World) (hW:Below w.heap.size w W) (k:Nat)=>zhj (k:=k) (H.out.below (hW.mono hB)))
 have AT2:Hid (∀(W:World) (_:Below w.heap.size w W) (k:Nat),Calls Tryz.prog 158 #[.slice A n c,.int .i64 ((k:Int)+1)] W fun e w'=>e=.returned (.int .u64 (dg l (k+1):Nat))∧W=w'):=fun W hW k=>AT.out W hW (k+1)
 obtain ⟨s,hs⟩:∃s,f / 32=s:=⟨_,rfl⟩
 obtain ⟨r,hr⟩:∃r,f%32=r:=⟨_,rfl⟩
 have hfs:f=32*s+r:=by omega
 have e0:(f:Int) / 32=(s:Int):=by omega
 have e00:(f:Int)%32=(r:Int):=by omega
 have hr32:r<32:=by omega
 have hsl:s≤4000:=by omega
 obtain ⟨V,hV⟩:∃V,nval l / 2 ^ f=V:=⟨_,rfl⟩
 rw [hV]
 have HW:=Lib.hid (fun k=>ztI H.out.dig s k r hr32)
 rw [← hfs,hV] at HW
 have HE:=Lib.hid (zsx (s:=s) (r:=r) H.out.dig HL.out)
 rw [← hfs,hV] at HE
 clear hs hr hfs hV
 go_enter Tryz.func131,Tryz.ntmps131
 go_wp2_with fail
 go_loopw [5,6] (fun x z W=>∃(k:Nat) (o:List Nat),k≤5000∧z=.int .i64 k∧Below w.heap.size w W∧Hid (OwnD W w.heap.size x o∧k=s+o.length∧nval o=V%4294967296 ^ o.length)) (fun _ z _=>n - (intOf z).toNat)
 case atStart=>exact ⟨s,[],by omega,rfl,Below.refl _ _,Lib.hid ⟨OwnD.nil _ _,rfl,by simp [nval,Nat.mod_one]⟩⟩
 case round =>
  obtain ⟨k,o,hk,rfl,hBB,hI⟩:=hrel
  by_cases hlt:(k:Int)<n
  ·have hd1:=dg_lt H.out.dig k
   have hd2:=dg_lt H.out.dig (k+1)
   have hw:=HW.out o.length
   rw [← hI.out.2.1] at hw
   obtain ⟨x,hx⟩:∃x,dg l k=x:=⟨_,rfl⟩
   obtain ⟨y,hy⟩:∃y,dg l (k+1)=y:=⟨_,rfl⟩
   have AT1:=Lib.hid (fun (W:World) (hW:Below w.heap.size w W)=>AT.out W hW k)
   have AT3:=Lib.hid (fun (W:World) (hW:Below w.heap.size w W)=>AT2.out W hW k)
   rw [hx] at hd1 hw AT1
   rw [hy] at hd2 hw AT3
   obtain ⟨q,hq⟩:∃q,(x+y*4294967296) / 2 ^ r=q:=⟨_,rfl⟩
   have hql:q<18446744073709551616:=by rw [← hq];exact Nat.lt_of_le_of_lt (Nat.div_le_self _ _) (by omega)
   rw [hq] at hw
   obtain ⟨d,hd⟩:∃d,q%4294967296=d:=⟨_,rfl⟩
   rw [hd] at hw
   have e1:((x:Int)+y*4294967296) / 2 ^ r=(q:Int):=by rw [← hq];simp
   have e2:(q:Int)%4294967296=(d:Int):=by omega
   have hdl:d<4294967296:=by omega
   obtain ⟨hO,hlo,hI2⟩:=hI.out
   have hb0:Below wr.heap.size wr (wr.alloc (.cells #[.int .u32 (d:Nat)] 123)):=(Below.refl _ _).alloc (Nat.le_refl _) _
   have hb1:=hBB.trans (hb0.mono hBB.size)
   have hO1:=Lib.hid (hO.below hb0 (Nat.le_refl _))
   have hnews:∀j u,[Value.int .u32 (d:Nat)][j]?=some u→(wr.alloc (.cells #[.int .u32 (d:Nat)] 123)).cell? ((⟨wr.heap.size,0,none⟩:Addr).add j)=some u:=by
    intro j u hj
    match j,hj with
    | 0,hj=>simp at hj;subst hj;simp [Addr.add]
   have hcl:∀u∈[Value.int .u32 (d:Nat)],u.oneCell'=true:=by intro u hu;simp at hu;subst hu;rfl
   have hmx:o.length+1≤maxLen:=by unfold maxLen;omega
   have hby2:(o.length+1)*4≤140737488355328:=by omega
   have hbs:w.heap.size≤(wr.alloc (.cells #[.int .u32 (d:Nat)] 123)).heap.size:=hb1.size
   have hst:=Lib.hid (And.intro hlo (And.intro hI2 hw))
   have tk1:Hid True:=trivial
   have tk2:Hid True:=trivial
   clear hO hI hq hd hw hlo hI2 hx hy
   go_wp2_with (first
    | (clear tk1;go_at_call 158;(with_reducible refine (AT1.out _ hBB).mono ?_);rintro e w1 ⟨rfl,rfl⟩)
    | (clear tk2;go_at_call 158;(with_reducible refine (AT3.out _ hBB).mono ?_);rintro e w1 ⟨rfl,rfl⟩)
    | (at_builtin;go_loud (refine wpList_append_lies _ rfl _ _ 28 rfl w.heap.size 123 i0 (.int .u32 0) 1 4 Tryz.underlying28 hi hz0 hz1 hz2 rfl (by decide) _ _ _ rfl hO1.out.1 ⟨wr.heap.size,0,none⟩ 1 1 [.int .u32 (d:Nat)] rfl rfl hnews hcl (by decide) hmx hby2 hbs _ rfl ?_;intro g cap w1 hown' hgrow _ hlt;have hP:=Lib.hid (hO1.out.pushed hdl hown' hgrow hbs);clear hown' hgrow))
    | fail "no arm")
   refine ⟨⟨k+1,o++[d],by omega,by go_num,hb1.trans (hP.out.2.mono (Nat.le_refl _)),Lib.hid ⟨hP.out.1,by rw [List.length_append,hst.out.1];rfl,?_⟩⟩,?_⟩
   ·rw [zad,List.length_append,hst.out.2.1,hst.out.2.2]
    exact zu2 V _
   ·simp only [intOf]
    omega
  ·have hfin:Hid (nval o=V):=by
    obtain ⟨hO,hlo,hI2⟩:=hI.out
    rw [hI2]
    exact Lib.hid (Nat.mod_eq_of_lt (Nat.lt_of_lt_of_le HE.out (Nat.pow_le_pow_right (by omega) (by omega))))
   obtain ⟨A4,c4,rfl,hs4,hfr⟩:=hI.out.1.sl
   replace hfr:=Lib.hid hfr
   go_wp2_with (first
    | (go_at_call 107;(with_reducible refine (za5 (v:=V) hs4 hfin.out).mono ?_);rintro e w2 ⟨n',rfl,hs5,rfl⟩)
    | fail "no arm")
   go_ret
   exact ⟨_,_,_,rfl,hs5,hBB,hfr.out⟩
theorem zZ {w:World} {A:Option Addr} {n c:Nat} {l:List Nat} (neg:Bool) (h:Sl w w.heap.size A n c l) (b:Bool) (hb:zq neg l=b) (W:World) (hW:Below w.heap.size w W) :
  Calls Tryz.prog 75 #[.agg #[.bool neg,.slice A n c]] W fun e w'=>e=.returned (.bool b)∧Below W.heap.size W w':=by
 subst hb
 exact ze6 neg A n c w.heap.size l W (h.below hW).1 hW.size h.2.1
theorem zte (neg neg2:Bool) {A A2:Option Addr} {n n2 c c2 B:Nat} {l:List Nat} {w:World} (h:Sl w B A n c l) (hB:B≤w.heap.size) (h1:zq neg l=false) :
  Calls Tryz.prog 112 #[.agg #[.bool neg,.slice A n c],.agg #[.bool neg2,.slice A2 n2 c2]] w (RetN none w):=by
 have R1:=Lib.hid (zZ neg (h.more hB) false h1)
 have s0:=Sm.start (w:=w) (neg:=neg) (A:=A) (n:=n) (c:=c) (neg2:=neg2) (A2:=A2) (n2:=n2) (c2:=c2)
 clear h h1
 go_enter Tryz.func112,Tryz.ntmps112
 go_wp2_with (go_at_call 75;refine (R1.out _ s0.below).mono ?_;rintro e w1 ⟨rfl,hb⟩;have s1:=s0.via hb;obtain ⟨a0,a1,b0,b1,r0,r1,rf,rz⟩:=s1.facts)
 obtain ⟨q0,q1⟩:=qd (.bool false) (.slice none 0 0) r0 r1
 refine bodyPost_ret (v:=.tuple #[.agg #[.bool false,.slice none 0 0],.bool false]) ?_ rfl ⟨_,_,_,rfl,by rw [show digs (vO none).natAbs=[] from zw];exact Sl.none_,?_⟩
 ·simp [results,Tryz.f112,go_sem,q0,q1]
 ·exact (s1.below.setCell (by simp;omega) _).setCell (by simp;omega) _
theorem ztf (neg neg2:Bool) {A A2:Option Addr} {n n2 c c2 B:Nat} {l m:List Nat} {w:World} (h:Sl w B A n c l) (h2:Sl w B A2 n2 c2 m) (hB:B≤w.heap.size) (h1:zq neg l=true) (k1:zq neg2 m=false) :
  Calls Tryz.prog 112 #[.agg #[.bool neg,.slice A n c],.agg #[.bool neg2,.slice A2 n2 c2]] w (RetN none w):=by
 have R1:=Lib.hid (zZ neg (h.more hB) true h1)
 have R2:=Lib.hid (zZ neg2 (h2.more hB) false k1)
 have s0:=Sm.start (w:=w) (neg:=neg) (A:=A) (n:=n) (c:=c) (neg2:=neg2) (A2:=A2) (n2:=n2) (c2:=c2)
 clear h h1 h2 k1
 go_enter Tryz.func112,Tryz.ntmps112
 go_wp2_with (first
  | (go_at_call 75;(with_reducible refine (R1.out _ s0.below).mono ?_);rintro e w1 ⟨rfl,hb⟩;have s1:=s0.via hb;obtain ⟨a0,a1,b0,b1,r0,r1,rf,rz⟩:=s1.facts)
  | (go_at_call 75;(with_reducible refine (R2.out _ s1.below).mono ?_);rintro e w2 ⟨rfl,hb⟩;have s2:=s1.via hb;clear a0 a1 b0 b1 r0 r1 rf rz;obtain ⟨a0,a1,b0,b1,r0,r1,rf,rz⟩:=s2.facts)
  | fail "no arm")
 obtain ⟨q0,q1⟩:=qd (.bool false) (.slice none 0 0) r0 r1
 refine bodyPost_ret (v:=.tuple #[.agg #[.bool false,.slice none 0 0],.bool false]) ?_ rfl ⟨_,_,_,rfl,by rw [show digs (vO none).natAbs=[] from zw];exact Sl.none_,?_⟩
 ·simp [results,Tryz.f112,go_sem,q0,q1]
 ·exact (s2.below.setCell (by simp;omega) _).setCell (by simp;omega) _
theorem ztg (neg neg2:Bool) {A A2:Option Addr} {n n2 c c2 B:Nat} {l m:List Nat} {w:World} (h:Sl w B A n c l) (h2:Sl w B A2 n2 c2 m) (hB:B≤w.heap.size) (h1:zq neg l=true) (k1:zq neg2 m=true) :
  Calls Tryz.prog 112 #[.agg #[.bool neg,.slice A n c],.agg #[.bool neg2,.slice A2 n2 c2]] w (RetN (fitO (sgn neg (nval l)*sgn neg2 (nval m))) w):=by
 have R1:=Lib.hid (zZ neg (h.more hB) true h1)
 have R2:=Lib.hid (zZ neg2 (h2.more hB) true k1)
 have hn:=(zJ h1 h.dig).2.1
 have hn2:=(zJ k1 h2.dig).2.1
 rw [h.len] at hn
 rw [h2.len] at hn2
 have TI:=Lib.hid (fun (W:World) (hW:Below w.heap.size w W)=>zr1 _ _ _ _ _ _ _ _ _ W ((h.more hB).below hW) ((h2.more hB).below hW) hW.size (by omega) (by omega))
 have s0:=Sm.start (w:=w) (neg:=neg) (A:=A) (n:=n) (c:=c) (neg2:=neg2) (A2:=A2) (n2:=n2) (c2:=c2)
 rw [zvW]
 clear h h1 h2 k1
 go_enter Tryz.func112,Tryz.ntmps112
 go_wp2_with (first
  | (go_at_call 75;(with_reducible refine (R1.out _ s0.below).mono ?_);rintro e w1 ⟨rfl,hb⟩;have s1:=s0.via hb;obtain ⟨a0,a1,b0,b1,r0,r1,rf,rz⟩:=s1.facts)
  | (go_at_call 75;(with_reducible refine (R2.out _ s1.below).mono ?_);rintro e w2 ⟨rfl,hb⟩;have s2:=s1.via hb;clear a0 a1 b0 b1 r0 r1 rf rz;obtain ⟨a0,a1,b0,b1,r0,r1,rf,rz⟩:=s2.facts)
  | fail "no arm")
 go_region_held3 (fun W=>W.cell? ⟨w.heap.size,0,none⟩=some (.bool neg)∧W.cell? ⟨w.heap.size,1,none⟩=some (.slice A n c)∧W.cell? ⟨w.heap.size+1,0,none⟩=some (.bool neg2)∧W.cell? ⟨w.heap.size+1,1,none⟩=some (.slice A2 n2 c2))
  (first | exact ⟨a0,a1,b0,b1⟩ | exact ⟨s5.facts.1,s5.facts.2.1,s5.facts.2.2.1,s5.facts.2.2.2.1⟩ | exact ⟨s6.facts.1,s6.facts.2.1,s6.facts.2.2.1,s6.facts.2.2.2.1⟩ | (simp [go_sem];exact ⟨a0,a1,b0,b1⟩))
  (first
   | (go_at_call 141;(with_reducible refine (TI.out _ s2.drew.below).mono ?_);rintro e w4 ⟨A3,n3,c3,rfl,hs3,hb4⟩;have s5:=s2.drew.via hb4)
   | (go_at_call 90;(with_reducible refine (zaU A3 n3 c3 w4.heap.size _ (!(neg == neg2)) _ w4 hs3 (Nat.le_refl _) (zp _)).mono ?_);rintro e w5 ⟨A4,n4,c4,rfl,hs4,hb5⟩;have s6:=s5.via hb5;clear a0 a1 b0 b1 r0 r1 rf rz;obtain ⟨a0,a1,b0,b1,r0,r1,rf,rz⟩:=s6.facts)
   | fail "no arm")
 all_goals
  go_wp2_with fail
  obtain ⟨q0,q1⟩:=qd (.bool (ngO (fitO (sgn (!(neg == neg2)) (nval l*nval m))))) (.slice A4 n4 c4) r0 r1
  refine bodyPost_ret (v:=.tuple #[.agg #[.bool (ngO (fitO (sgn (!(neg == neg2)) (nval l*nval m)))),.slice A4 n4 c4],.bool (okO (fitO (sgn (!(neg == neg2)) (nval l*nval m))))]) ?_ rfl ⟨_,_,_,rfl,?_,?_⟩
  ·simp [results,Tryz.f112,go_sem,q0,q1]
  ·exact hs4.stored r0 r1 _ _
  ·exact (s6.below.setCell (by simp;omega) _).setCell (by simp;omega) _
theorem ztd (neg neg2:Bool) {A A2:Option Addr} {n n2 c c2 B:Nat} {l m:List Nat} {w:World} (h:Sl w B A n c l) (h2:Sl w B A2 n2 c2 m) (hB:B≤w.heap.size) :
  Calls Tryz.prog 112 #[.agg #[.bool neg,.slice A n c],.agg #[.bool neg2,.slice A2 n2 c2]] w (RetN (mulS neg l neg2 m) w):=by
 cases h1:zq neg l with
 | false=>rw [show mulS neg l neg2 m=none by unfold mulS;rw [if_neg (by rw [h1];simp)]];exact zte neg neg2 h hB h1
 | true =>
  cases k1:zq neg2 m with
  | false=>rw [show mulS neg l neg2 m=none by unfold mulS;rw [if_neg (by rw [k1];simp)]];exact ztf neg neg2 h h2 hB h1 k1
  | true =>
   rw [show mulS neg l neg2 m=fitO (sgn neg (nval l)*sgn neg2 (nval m)) by unfold mulS;rw [if_pos ⟨h1,k1⟩]]
   exact ztg neg neg2 h h2 hB h1 k1
theorem ziv (neg neg2:Bool) {A A2:Option Addr} {n n2 c c2 B:Nat} {l:List Nat} {w:World} (h:Sl w B A n c l) (hB:B≤w.heap.size) (h1:zq neg l=false) :
  Calls Tryz.prog 113 #[.agg #[.bool neg,.slice A n c],.agg #[.bool neg2,.slice A2 n2 c2]] w (RetN none w):=by
 have R1:=Lib.hid (zZ neg (h.more hB) false h1)
 have s0:=Sm.start (w:=w) (neg:=neg) (A:=A) (n:=n) (c:=c) (neg2:=neg2) (A2:=A2) (n2:=n2) (c2:=c2)
 clear h h1
 go_enter Tryz.func113,Tryz.ntmps113
 go_wp2_with (go_at_call 75;refine (R1.out _ s0.below).mono ?_;rintro e w1 ⟨rfl,hb⟩;have s1:=s0.via hb;obtain ⟨a0,a1,b0,b1,r0,r1,rf,rz⟩:=s1.facts)
 obtain ⟨q0,q1⟩:=qd (.bool false) (.slice none 0 0) r0 r1
 refine bodyPost_ret (v:=.tuple #[.agg #[.bool false,.slice none 0 0],.bool false]) ?_ rfl ⟨_,_,_,rfl,by rw [show digs (vO none).natAbs=[] from zw];exact Sl.none_,?_⟩
 ·simp [results,Tryz.f113,go_sem,q0,q1]
 ·exact (s1.below.setCell (by simp;omega) _).setCell (by simp;omega) _
theorem ziw (neg neg2:Bool) {A A2:Option Addr} {n n2 c c2 B:Nat} {l m:List Nat} {w:World} (h:Sl w B A n c l) (h2:Sl w B A2 n2 c2 m) (hB:B≤w.heap.size) (h1:zq neg l=true) (k1:zq neg2 m=false) :
  Calls Tryz.prog 113 #[.agg #[.bool neg,.slice A n c],.agg #[.bool neg2,.slice A2 n2 c2]] w (RetN none w):=by
 have R1:=Lib.hid (zZ neg (h.more hB) true h1)
 have R2:=Lib.hid (zZ neg2 (h2.more hB) false k1)
 have s0:=Sm.start (w:=w) (neg:=neg) (A:=A) (n:=n) (c:=c) (neg2:=neg2) (A2:=A2) (n2:=n2) (c2:=c2)
 clear h h1 h2 k1
 go_enter Tryz.func113,Tryz.ntmps113
 go_wp2_with (first
  | (go_at_call 75;(with_reducible refine (R1.out _ s0.below).mono ?_);rintro e w1 ⟨rfl,hb⟩;have s1:=s0.via hb;obtain ⟨a0,a1,b0,b1,r0,r1,rf,rz⟩:=s1.facts)
  | (go_at_call 75;(with_reducible refine (R2.out _ s1.below).mono ?_);rintro e w2 ⟨rfl,hb⟩;have s2:=s1.via hb;clear a0 a1 b0 b1 r0 r1 rf rz;obtain ⟨a0,a1,b0,b1,r0,r1,rf,rz⟩:=s2.facts)
  | fail "no arm")
 obtain ⟨q0,q1⟩:=qd (.bool false) (.slice none 0 0) r0 r1
 refine bodyPost_ret (v:=.tuple #[.agg #[.bool false,.slice none 0 0],.bool false]) ?_ rfl ⟨_,_,_,rfl,by rw [show digs (vO none).natAbs=[] from zw];exact Sl.none_,?_⟩
 ·simp [results,Tryz.f113,go_sem,q0,q1]
 ·exact (s2.below.setCell (by simp;omega) _).setCell (by simp;omega) _
theorem zgQ (ng:Bool) {A A2:Option Addr} {n n2 c c2 B:Nat} {l m:List Nat} {w:World} (h:Sl w B A n c l) (h2:Sl w B A2 n2 c2 m) (hB:B≤w.heap.size) (h1:zq ng l=true) (k1:zq ng m=true) :
  Calls Tryz.prog 113 #[.agg #[.bool ng,.slice A n c],.agg #[.bool ng,.slice A2 n2 c2]] w (RetN (fitO (sgn ng (nval l)+sgn ng (nval m))) w):=by
 have R1:=Lib.hid (zZ ng (h.more hB) true h1)
 have R2:=Lib.hid (zZ ng (h2.more hB) true k1)
 have hn:=(zJ h1 h.dig).2.1
 have hn2:=(zJ k1 h2.dig).2.1
 rw [h.len] at hn
 rw [h2.len] at hn2
 have PL:=Lib.hid (fun (W:World) (hW:Below w.heap.size w W)=>zgR A A2 n c n2 c2 w.heap.size l m W ((h.more hB).below hW) ((h2.more hB).below hW) hW.size (by omega) (by omega))
 have s0:=Sm.start (w:=w) (neg:=ng) (A:=A) (n:=n) (c:=c) (neg2:=ng) (A2:=A2) (n2:=n2) (c2:=c2)
 rw [znu]
 clear h h1 h2 k1
 go_enter Tryz.func113,Tryz.ntmps113
 go_wp2_with (first
  | (go_at_call 75;(with_reducible refine (R1.out _ s0.below).mono ?_);rintro e w1 ⟨rfl,hb⟩;have s1:=s0.via hb;obtain ⟨a0,a1,b0,b1,r0,r1,rf,rz⟩:=s1.facts)
  | (go_at_call 75;(with_reducible refine (R2.out _ s1.below).mono ?_);rintro e w2 ⟨rfl,hb⟩;have s2:=s1.via hb;clear a0 a1 b0 b1 r0 r1 rf rz;obtain ⟨a0,a1,b0,b1,r0,r1,rf,rz⟩:=s2.facts)
  | fail "no arm")
 go_region_held3 (fun W=>W.cell? ⟨w.heap.size,0,none⟩=some (.bool ng)∧W.cell? ⟨w.heap.size,1,none⟩=some (.slice A n c)∧W.cell? ⟨w.heap.size+1,0,none⟩=some (.bool ng)∧W.cell? ⟨w.heap.size+1,1,none⟩=some (.slice A2 n2 c2))
  (first | exact ⟨a0,a1,b0,b1⟩ | exact ⟨s5.facts.1,s5.facts.2.1,s5.facts.2.2.1,s5.facts.2.2.2.1⟩ | exact ⟨s6.facts.1,s6.facts.2.1,s6.facts.2.2.1,s6.facts.2.2.2.1⟩ | (simp [go_sem];exact ⟨a0,a1,b0,b1⟩))
  (first
   | (go_at_call 140;(with_reducible refine (PL.out _ s2.drew.below).mono ?_);rintro e w4 ⟨A3,n3,c3,rfl,hs3,hb4⟩;have s5:=s2.drew.via hb4)
   | (go_at_call 90;(with_reducible refine (zaU A3 n3 c3 w4.heap.size _ ng _ w4 hs3 (Nat.le_refl _) (zp _)).mono ?_);rintro e w5 ⟨A4,n4,c4,rfl,hs4,hb5⟩;have s6:=s5.via hb5;clear a0 a1 b0 b1 r0 r1 rf rz;obtain ⟨a0,a1,b0,b1,r0,r1,rf,rz⟩:=s6.facts)
   | fail "no arm")
 all_goals
  go_wp2_with fail
  obtain ⟨q0,q1⟩:=qd (.bool (ngO (fitO (sgn ng (nval l+nval m))))) (.slice A4 n4 c4) r0 r1
  refine bodyPost_ret (v:=.tuple #[.agg #[.bool (ngO (fitO (sgn ng (nval l+nval m)))),.slice A4 n4 c4],.bool (okO (fitO (sgn ng (nval l+nval m))))]) ?_ rfl ⟨_,_,_,rfl,?_,?_⟩
  ·simp [results,Tryz.f113,go_sem,q0,q1]
  ·exact hs4.stored r0 r1 _ _
  ·exact (s6.below.setCell (by simp;omega) _).setCell (by simp;omega) _
theorem ze4 (ng:Bool) {A A2:Option Addr} {n n2 c c2 B:Nat} {l m:List Nat} {w:World} (h:Sl w B A n c l) (h2:Sl w B A2 n2 c2 m) (hB:B≤w.heap.size) (h1:zq (!ng) l=true) (k1:zq ng m=true) (hlt:nval l<nval m) :
  Calls Tryz.prog 113 #[.agg #[.bool (!ng),.slice A n c],.agg #[.bool ng,.slice A2 n2 c2]] w (RetN (fitO (sgn (!ng) (nval l)+sgn ng (nval m))) w):=by
 have R1:=Lib.hid (zZ (!ng) (h.more hB) true h1)
 have R2:=Lib.hid (zZ ng (h2.more hB) true k1)
 have hl:=zJ h1 h.dig
 have hm:=zJ k1 h2.dig
 have hn2:=hm.2.1
 rw [h2.len] at hn2
 have hnn:n≤n2:=by have:=zav hl.1 hm.1.1 (Nat.le_of_lt hlt);rwa [h.len,h2.len] at this
 have hq:(Value.bool ((!ng) == ng))=.bool false:=by cases ng<;>rfl
 have hq2:((!ng) == ng)=false:=by cases ng<;>rfl
 have hc:=q6 hlt
 have CP:=Lib.hid (fun (W:World) (hW:Below w.heap.size w W)=>zaY ((h.more hB).below hW) ((h2.more hB).below hW) hW.size hl.1 hm.1)
 have MI:=Lib.hid (fun (W:World) (hW:Below w.heap.size w W)=>zb2 _ _ _ _ _ _ _ _ _ W ((h2.more hB).below hW) ((h.more hB).below hW) hW.size (by omega) hnn (Nat.le_of_lt hlt))
 have s0:=Sm.start (w:=w) (neg:=!ng) (A:=A) (n:=n) (c:=c) (neg2:=ng) (A2:=A2) (n2:=n2) (c2:=c2)
 rw [zlH ng (Nat.le_of_lt hlt)]
 rw [hc] at CP
 clear h h1 h2 k1 hl hm hlt hc
 go_enter Tryz.func113,Tryz.ntmps113
 go_wp2_with (first
  | (go_at_call 75;(with_reducible refine (R1.out _ s0.below).mono ?_);rintro e w1 ⟨rfl,hb⟩;have s1:=s0.via hb;obtain ⟨a0,a1,b0,b1,r0,r1,rf,rz⟩:=s1.facts)
  | (go_at_call 75;(with_reducible refine (R2.out _ s1.below).mono ?_);rintro e w2 ⟨rfl,hb⟩;have s2:=s1.via hb;clear a0 a1 b0 b1 r0 r1 rf rz;obtain ⟨a0,a1,b0,b1,r0,r1,rf,rz⟩:=s2.facts)
  | (go_at_call 105;(with_reducible refine (CP.out _ s2.below).mono ?_);rintro e w3 ⟨rfl,hb3⟩;replace s2:=s2.via hb3;clear a0 a1 b0 b1 r0 r1 rf rz;obtain ⟨a0,a1,b0,b1,r0,r1,rf,rz⟩:=s2.facts)
  | fail "no arm")
 go_region_held3 (fun W=>W.cell? ⟨w.heap.size,0,none⟩=some (.bool (!ng))∧W.cell? ⟨w.heap.size,1,none⟩=some (.slice A n c)∧W.cell? ⟨w.heap.size+1,0,none⟩=some (.bool ng)∧W.cell? ⟨w.heap.size+1,1,none⟩=some (.slice A2 n2 c2))
  (first | exact ⟨a0,a1,b0,b1⟩ | exact ⟨s5.facts.1,s5.facts.2.1,s5.facts.2.2.1,s5.facts.2.2.2.1⟩ | exact ⟨s6.facts.1,s6.facts.2.1,s6.facts.2.2.1,s6.facts.2.2.2.1⟩ | (simp [go_sem];exact ⟨a0,a1,b0,b1⟩))
  (first
   | (go_at_call 134;(with_reducible refine (MI.out _ s2.drew.below).mono ?_);rintro e w4 ⟨A3,n3,c3,rfl,hs3,hb4⟩;have s5:=s2.drew.via hb4)
   | (go_at_call 90;(with_reducible refine (zaU A3 n3 c3 w4.heap.size _ ng _ w4 hs3 (Nat.le_refl _) (zp _)).mono ?_);rintro e w5 ⟨A4,n4,c4,rfl,hs4,hb5⟩;have s6:=s5.via hb5;clear a0 a1 b0 b1 r0 r1 rf rz;obtain ⟨a0,a1,b0,b1,r0,r1,rf,rz⟩:=s6.facts)
   | fail "no arm")
 all_goals
  go_wp2_with fail
  obtain ⟨q0,q1⟩:=qd (.bool (ngO (fitO (sgn ng (nval m - nval l))))) (.slice A4 n4 c4) r0 r1
  refine bodyPost_ret (v:=.tuple #[.agg #[.bool (ngO (fitO (sgn ng (nval m - nval l)))),.slice A4 n4 c4],.bool (okO (fitO (sgn ng (nval m - nval l))))]) ?_ rfl ⟨_,_,_,rfl,?_,?_⟩
  ·simp [results,Tryz.f113,go_sem,q0,q1]
  ·exact hs4.stored r0 r1 _ _
  ·exact (s6.below.setCell (by simp;omega) _).setCell (by simp;omega) _
theorem ze5 (ng:Bool) {A A2:Option Addr} {n n2 c c2 B:Nat} {l m:List Nat} {w:World} (h:Sl w B A n c l) (h2:Sl w B A2 n2 c2 m) (hB:B≤w.heap.size) (h1:zq (!ng) l=true) (k1:zq ng m=true) (hge:nval m≤nval l) :
  Calls Tryz.prog 113 #[.agg #[.bool (!ng),.slice A n c],.agg #[.bool ng,.slice A2 n2 c2]] w (RetN (fitO (sgn (!ng) (nval l)+sgn ng (nval m))) w):=by
 have R1:=Lib.hid (zZ (!ng) (h.more hB) true h1)
 have R2:=Lib.hid (zZ ng (h2.more hB) true k1)
 have hl:=zJ h1 h.dig
 have hm:=zJ k1 h2.dig
 have hn:=hl.2.1
 rw [h.len] at hn
 have hnn:n2≤n:=by have:=zav hm.1 hl.1.1 hge;rwa [h.len,h2.len] at this
 have hq:(Value.bool ((!ng) == ng))=.bool false:=by cases ng<;>rfl
 have hq2:((!ng) == ng)=false:=by cases ng<;>rfl
 have hc:=zgh hge
 have CP:=Lib.hid (fun (W:World) (hW:Below w.heap.size w W)=>zaY ((h.more hB).below hW) ((h2.more hB).below hW) hW.size hl.1 hm.1)
 have MI:=Lib.hid (fun (W:World) (hW:Below w.heap.size w W)=>zb2 _ _ _ _ _ _ _ _ _ W ((h.more hB).below hW) ((h2.more hB).below hW) hW.size (by omega) hnn hge)
 have s0:=Sm.start (w:=w) (neg:=!ng) (A:=A) (n:=n) (c:=c) (neg2:=ng) (A2:=A2) (n2:=n2) (c2:=c2)
 have eg:=znv (!ng) hge
 rw [Bool.not_not] at eg
 rw [eg]
 clear h h1 h2 k1 hl hm hge eg
 go_enter Tryz.func113,Tryz.ntmps113
 go_wp2_with (first
  | (go_at_call 75;(with_reducible refine (R1.out _ s0.below).mono ?_);rintro e w1 ⟨rfl,hb⟩;have s1:=s0.via hb;obtain ⟨a0,a1,b0,b1,r0,r1,rf,rz⟩:=s1.facts)
  | (go_at_call 75;(with_reducible refine (R2.out _ s1.below).mono ?_);rintro e w2 ⟨rfl,hb⟩;have s2:=s1.via hb;clear a0 a1 b0 b1 r0 r1 rf rz;obtain ⟨a0,a1,b0,b1,r0,r1,rf,rz⟩:=s2.facts)
  | (go_at_call 105;(with_reducible refine (CP.out _ s2.below).mono ?_);rintro e w3 ⟨rfl,hb3⟩;replace s2:=s2.via hb3;clear a0 a1 b0 b1 r0 r1 rf rz;obtain ⟨a0,a1,b0,b1,r0,r1,rf,rz⟩:=s2.facts)
  | fail "no arm")
 go_region_held3 (fun W=>W.cell? ⟨w.heap.size,0,none⟩=some (.bool (!ng))∧W.cell? ⟨w.heap.size,1,none⟩=some (.slice A n c)∧W.cell? ⟨w.heap.size+1,0,none⟩=some (.bool ng)∧W.cell? ⟨w.heap.size+1,1,none⟩=some (.slice A2 n2 c2))
  (first | exact ⟨a0,a1,b0,b1⟩ | exact ⟨s5.facts.1,s5.facts.2.1,s5.facts.2.2.1,s5.facts.2.2.2.1⟩ | exact ⟨s6.facts.1,s6.facts.2.1,s6.facts.2.2.1,s6.facts.2.2.2.1⟩ | (simp [go_sem];exact ⟨a0,a1,b0,b1⟩))
  (first
   | (go_at_call 134;(with_reducible refine (MI.out _ s2.drew.below).mono ?_);rintro e w4 ⟨A3,n3,c3,rfl,hs3,hb4⟩;have s5:=s2.drew.via hb4)
   | (go_at_call 90;(with_reducible refine (zaU A3 n3 c3 w4.heap.size _ (!ng) _ w4 hs3 (Nat.le_refl _) (zp _)).mono ?_);rintro e w5 ⟨A4,n4,c4,rfl,hs4,hb5⟩;have s6:=s5.via hb5;clear a0 a1 b0 b1 r0 r1 rf rz;obtain ⟨a0,a1,b0,b1,r0,r1,rf,rz⟩:=s6.facts)
   | fail "no arm")
 all_goals
  go_wp2_with fail
  obtain ⟨q0,q1⟩:=qd (.bool (ngO (fitO (sgn (!ng) (nval l - nval m))))) (.slice A4 n4 c4) r0 r1
  refine bodyPost_ret (v:=.tuple #[.agg #[.bool (ngO (fitO (sgn (!ng) (nval l - nval m)))),.slice A4 n4 c4],.bool (okO (fitO (sgn (!ng) (nval l - nval m))))]) ?_ rfl ⟨_,_,_,rfl,?_,?_⟩
  ·simp [results,Tryz.f113,go_sem,q0,q1]
  ·exact hs4.stored r0 r1 _ _
  ·exact (s6.below.setCell (by simp;omega) _).setCell (by simp;omega) _
theorem ziu (neg neg2:Bool) {A A2:Option Addr} {n n2 c c2 B:Nat} {l m:List Nat} {w:World} (h:Sl w B A n c l) (h2:Sl w B A2 n2 c2 m) (hB:B≤w.heap.size) :
  Calls Tryz.prog 113 #[.agg #[.bool neg,.slice A n c],.agg #[.bool neg2,.slice A2 n2 c2]] w (RetN (sumS neg l neg2 m neg2) w):=by
 cases h1:zq neg l with
 | false=>rw [show sumS neg l neg2 m neg2=none by unfold sumS;rw [if_neg (by rw [h1];simp)]];exact ziv neg neg2 h hB h1
 | true =>
  cases k1:zq neg2 m with
  | false=>rw [show sumS neg l neg2 m neg2=none by unfold sumS;rw [if_neg (by rw [k1];simp)]];exact ziw neg neg2 h h2 hB h1 k1
  | true =>
   rw [show sumS neg l neg2 m neg2=fitO (sgn neg (nval l)+sgn neg2 (nval m)) by unfold sumS;rw [if_pos ⟨h1,k1⟩]]
   by_cases hq:neg=neg2
   ·subst hq;exact zgQ neg h h2 hB h1 k1
   ·obtain rfl:neg=!neg2:=by revert hq;cases neg<;>cases neg2<;>simp
    rcases Nat.lt_or_ge (nval l) (nval m) with hv | hv
    ·exact ze4 neg2 h h2 hB h1 k1 hv
    ·exact ze5 neg2 h h2 hB h1 k1 hv
theorem ztR (a b:Nat):cmpv b a=-cmpv a b:=by (unfold cmpv;repeat' split);all_goals omega
theorem zs2 (neg neg2:Bool) {A A2:Option Addr} {n n2 c c2 B:Nat} {l:List Nat} {w:World} (h:Sl w B A n c l) (hB:B≤w.heap.size) (h1:zq neg l=false) :
  Calls Tryz.prog 76 #[.agg #[.bool neg,.slice A n c],.agg #[.bool neg2,.slice A2 n2 c2]] w fun e w'=>e=.returned (.int .i64 0)∧Below w.heap.size w w':=by
 have R1:=Lib.hid (zZ neg (h.more hB) false h1)
 have s0:=S2.start (w:=w) (neg:=neg) (A:=A) (n:=n) (c:=c) (neg2:=neg2) (A2:=A2) (n2:=n2) (c2:=c2)
 clear h h1
 go_enter Tryz.func76,Tryz.ntmps76
 go_wp2_with (go_at_call 75;refine (R1.out _ s0.below).mono ?_;rintro e w1 ⟨rfl,hb⟩;have s1:=s0.via hb;obtain ⟨a0,a1,b0,b1⟩:=s1.facts)
 go_ret
 exact ⟨rfl,s1.below⟩
theorem zs3 (neg neg2:Bool) {A A2:Option Addr} {n n2 c c2 B:Nat} {l m:List Nat} {w:World} (h:Sl w B A n c l) (h2:Sl w B A2 n2 c2 m) (hB:B≤w.heap.size) (h1:zq neg l=true) (k1:zq neg2 m=false) :
  Calls Tryz.prog 76 #[.agg #[.bool neg,.slice A n c],.agg #[.bool neg2,.slice A2 n2 c2]] w fun e w'=>e=.returned (.int .i64 0)∧Below w.heap.size w w':=by
 have R1:=Lib.hid (zZ neg (h.more hB) true h1)
 have R2:=Lib.hid (zZ neg2 (h2.more hB) false k1)
 have s0:=S2.start (w:=w) (neg:=neg) (A:=A) (n:=n) (c:=c) (neg2:=neg2) (A2:=A2) (n2:=n2) (c2:=c2)
 clear h h1 h2 k1
 go_enter Tryz.func76,Tryz.ntmps76
 go_wp2_with (first
  | (go_at_call 75;(with_reducible refine (R1.out _ s0.below).mono ?_);rintro e w1 ⟨rfl,hb⟩;have s1:=s0.via hb;obtain ⟨a0,a1,b0,b1⟩:=s1.facts)
  | (go_at_call 75;(with_reducible refine (R2.out _ s1.below).mono ?_);rintro e w2 ⟨rfl,hb⟩;have s2:=s1.via hb;clear a0 a1 b0 b1;obtain ⟨a0,a1,b0,b1⟩:=s2.facts)
  | fail "no arm")
 go_ret
 exact ⟨rfl,s2.below⟩
theorem zs4 (neg neg2:Bool) {A A2:Option Addr} {n n2 c c2 B:Nat} {l m:List Nat} {w:World} (h:Sl w B A n c l) (h2:Sl w B A2 n2 c2 m) (hB:B≤w.heap.size) (h1:zq neg l=true) (k1:zq neg2 m=true) :
  Calls Tryz.prog 76 #[.agg #[.bool neg,.slice A n c],.agg #[.bool neg2,.slice A2 n2 c2]] w fun e w'=>e=.returned (.int .i64 (cmpB neg neg2 (cmpv (nval l) (nval m))))∧Below w.heap.size w w':=by
 have R1:=Lib.hid (zZ neg (h.more hB) true h1)
 have R2:=Lib.hid (zZ neg2 (h2.more hB) true k1)
 have hl:=zJ h1 h.dig
 have hm:=zJ k1 h2.dig
 have CP:=Lib.hid (fun (W:World) (hW:Below w.heap.size w W)=>zaY ((h.more hB).below hW) ((h2.more hB).below hW) hW.size hl.1 hm.1)
 have CQ:=Lib.hid (fun (W:World) (hW:Below w.heap.size w W)=>zaY ((h2.more hB).below hW) ((h.more hB).below hW) hW.size hm.1 hl.1)
 rw [ztR] at CQ
 have s0:=S2.start (w:=w) (neg:=neg) (A:=A) (n:=n) (c:=c) (neg2:=neg2) (A2:=A2) (n2:=n2) (c2:=c2)
 obtain ⟨o,ho⟩:∃o,cmpv (nval l) (nval m)=o:=⟨_,rfl⟩
 obtain ⟨o1,o2⟩:=zn6 (nval l) (nval m)
 rw [ho] at CP CQ o1 o2 ⊢
 have hw:IntKind.i64.wrap (-o)=-o:=by rw [IntKind.wrap_i64];omega
 clear h h1 h2 k1 hl hm ho
 cases neg<;>cases neg2
 all_goals
  go_enter Tryz.func76,Tryz.ntmps76
  go_wp2_with (first
   | (go_at_call 75;(with_reducible refine (R1.out _ s0.below).mono ?_);rintro e w1 ⟨rfl,hb⟩;have s1:=s0.via hb;obtain ⟨a0,a1,b0,b1⟩:=s1.facts)
   | (go_at_call 75;(with_reducible refine (R2.out _ s1.below).mono ?_);rintro e w2 ⟨rfl,hb⟩;have s2:=s1.via hb;clear a0 a1 b0 b1;obtain ⟨a0,a1,b0,b1⟩:=s2.facts)
   | (go_at_call 105;(with_reducible refine (CP.out _ s2.below).mono ?_);rintro e w3 ⟨rfl,hb⟩;have s3:=s2.via hb;clear a0 a1 b0 b1;obtain ⟨a0,a1,b0,b1⟩:=s3.facts)
   | (go_at_call 105;(with_reducible refine (CQ.out _ s2.below).mono ?_);rintro e w3 ⟨rfl,hb⟩;have s3:=s2.via hb;clear a0 a1 b0 b1;obtain ⟨a0,a1,b0,b1⟩:=s3.facts)
   | fail "no arm")
  go_ret
  first
   | exact ⟨by simp [cmpB],s3.below⟩
   | exact ⟨by simp [cmpB],s2.below⟩
theorem zs1 (neg neg2:Bool) {A A2:Option Addr} {n n2 c c2 B:Nat} {l m:List Nat} {w:World} (h:Sl w B A n c l) (h2:Sl w B A2 n2 c2 m) (hB:B≤w.heap.size) :
  Calls Tryz.prog 76 #[.agg #[.bool neg,.slice A n c],.agg #[.bool neg2,.slice A2 n2 c2]] w fun e w'=>e=.returned (.int .i64 (cmpS neg l neg2 m))∧Below w.heap.size w w':=by
 cases h1:zq neg l with
 | false=>rw [show cmpS neg l neg2 m=0 by unfold cmpS;rw [if_neg (by rw [h1];simp)]];exact zs2 neg neg2 h hB h1
 | true =>
  cases k1:zq neg2 m with
  | false=>rw [show cmpS neg l neg2 m=0 by unfold cmpS;rw [if_neg (by rw [k1];simp)]];exact zs3 neg neg2 h h2 hB h1 k1
  | true =>
   have hp:∀{b:Bool} {k:List Nat},zq b k=true→Dig k→b=true→0<nval k:=fun {b k} hr hd hb=>by
    rcases Nat.eq_zero_or_pos (nval k) with h0 | h0
    ·have:=(zJ hr hd).2.2 (qL (zJ hr hd).1 h0);rw [hb] at this;cases this
    ·exact h0
   rw [show cmpS neg l neg2 m=cmpB neg neg2 (cmpv (nval l) (nval m)) by unfold cmpS;rw [if_pos ⟨h1,k1⟩,zmP (hp h1 h.dig) (hp k1 h2.dig)]]
   exact zs4 neg neg2 h h2 hB h1 k1
theorem zsm (neg:Bool) (A:Option Addr) (n c:Nat) (g:Bool) (w:World) (hg:(!neg && decide ((0:Int)<n))=g) :
  Calls Tryz.prog 163 #[.agg #[.bool neg,.slice A n c]] w fun e w'=>e=.returned (.agg #[.bool g,.slice A n c])∧Below w.heap.size w w':=by
 subst hg
 have hA0:(w.alloc (.cells #[.bool neg,.slice A n c] 30)).heap.size=w.heap.size+1:=by simp
 cases neg
 ·by_cases hn:(0:Int)<n
  ·go_enter Tryz.func163,Tryz.ntmps163
   go_wp2_with fail
   refine bodyPost_ret (v:=.agg #[.bool true,.slice A n c]) ?_ rfl ⟨?_,?_⟩
   ·simp [results,Tryz.f163,go_sem]
    omega
   ·simp
    omega
   ·go_grown
  ·go_enter Tryz.func163,Tryz.ntmps163
   go_wp2_with fail
   refine bodyPost_ret (v:=.agg #[.bool false,.slice A n c]) ?_ rfl ⟨?_,?_⟩
   ·simp [results,Tryz.f163,go_sem]
    omega
   ·simp
    omega
   ·go_grown
 ·go_enter Tryz.func163,Tryz.ntmps163
  go_wp2_with fail
  refine bodyPost_ret (v:=.agg #[.bool false,.slice A n c]) ?_ rfl ⟨?_,?_⟩
  ·simp [results,Tryz.f163,go_sem]
  ·simp
  ·go_grown
theorem zu7 (neg neg2:Bool) {l m:List Nat} {n:Nat} {g:Bool} (hm:zq neg2 m=true) (hn:m.length=n) (hg:(!neg2 && decide ((0:Int)<n))=g):sumS neg l g m g=sumS neg l neg2 m (!neg2):=by
 subst hg
 rcases Nat.eq_zero_or_pos n with h0 | h0
 ·obtain rfl:m=[]:=List.eq_nil_of_length_eq_zero (by omega)
  have h2:neg2=false:=by cases neg2<;>simp [zq] at hm ⊢
  subst h2
  have e:(!false && decide ((0:Int)<n))=false:=by simp;omega
  rw [e]
  unfold sumS
  rw [hm]
  simp [sgn,nval]
 ·have e:(!neg2 && decide ((0:Int)<n))=!neg2:=by simp;omega
  rw [e]
  have hr:zq (!neg2) m=true:=by
   have hne:m≠[]:=fun e=>by rw [e] at hn;simp at hn;omega
   have hemp:m.isEmpty=false:=by cases m<;>simp_all
   unfold zq at hm ⊢
   rw [hemp] at hm ⊢
   simpa using hm
  unfold sumS
  rw [hm,hr]
theorem zua (neg neg2:Bool) {A A2:Option Addr} {n n2 c c2 B:Nat} {m:List Nat} {w:World} (h2:Sl w B A2 n2 c2 m) (hB:B≤w.heap.size) (k1:zq neg2 m=false) :
  Calls Tryz.prog 144 #[.agg #[.bool neg,.slice A n c],.agg #[.bool neg2,.slice A2 n2 c2]] w (RetN none w):=by
 have R1:=Lib.hid (zZ neg2 (h2.more hB) false k1)
 have s0:=Sm.start (w:=w) (neg:=neg) (A:=A) (n:=n) (c:=c) (neg2:=neg2) (A2:=A2) (n2:=n2) (c2:=c2)
 clear h2 k1
 go_enter Tryz.func144,Tryz.ntmps144
 go_wp2_with (go_at_call 75;refine (R1.out _ s0.below).mono ?_;rintro e w1 ⟨rfl,hb⟩;have s1:=s0.via hb;obtain ⟨a0,a1,b0,b1,r0,r1,rf,rz⟩:=s1.facts)
 obtain ⟨q0,q1⟩:=qd (.bool false) (.slice none 0 0) r0 r1
 refine bodyPost_ret (v:=.tuple #[.agg #[.bool false,.slice none 0 0],.bool false]) ?_ rfl ⟨_,_,_,rfl,by rw [show digs (vO none).natAbs=[] from zw];exact Sl.none_,?_⟩
 ·simp [results,Tryz.f144,go_sem,q0,q1]
 ·exact (s1.below.setCell (by simp;omega) _).setCell (by simp;omega) _
theorem ztl (neg neg2:Bool) {A A2:Option Addr} {n n2 c c2 B:Nat} {l m:List Nat} {w:World} (h:Sl w B A n c l) (h2:Sl w B A2 n2 c2 m) (hB:B≤w.heap.size) :
  Calls Tryz.prog 144 #[.agg #[.bool neg,.slice A n c],.agg #[.bool neg2,.slice A2 n2 c2]] w (RetN (sumS neg l neg2 m (!neg2)) w):=by
 cases k1:zq neg2 m with
 | false=>rw [show sumS neg l neg2 m (!neg2)=none by unfold sumS;rw [if_neg (by rw [k1];simp)]];exact zua neg neg2 h2 hB k1
 | true =>
  obtain ⟨g,hg⟩:∃g,(!neg2 && decide ((0:Int)<n2))=g:=⟨_,rfl⟩
  rw [← zu7 neg neg2 (l:=l) k1 h2.len hg]
  have R1:=Lib.hid (zZ neg2 (h2.more hB) true k1)
  have NE:=Lib.hid (fun (W:World)=>zsm neg2 A2 n2 c2 g W hg)
  have AD:=Lib.hid (fun (W:World) (hW:Below w.heap.size w W)=>ziu neg g ((h.more hB).below hW) ((h2.more hB).below hW) hW.size)
  have s0:=Sm.start (w:=w) (neg:=neg) (A:=A) (n:=n) (c:=c) (neg2:=neg2) (A2:=A2) (n2:=n2) (c2:=c2)
  obtain ⟨r,hr⟩:∃r,sumS neg l g m g=r:=⟨_,rfl⟩
  rw [hr] at AD ⊢
  clear h h2 k1 hg hr
  go_enter Tryz.func144,Tryz.ntmps144
  go_wp2_with (go_at_call 75;refine (R1.out _ s0.below).mono ?_;rintro e w1 ⟨rfl,hb⟩;have s1:=s0.via hb;obtain ⟨a0,a1,b0,b1,r0,r1,rf,rz⟩:=s1.facts)
  go_region_held3 (fun W=>W.cell? ⟨w.heap.size,0,none⟩=some (.bool neg)∧W.cell? ⟨w.heap.size,1,none⟩=some (.slice A n c)∧W.cell? ⟨w.heap.size+1,0,none⟩=some (.bool neg2)∧W.cell? ⟨w.heap.size+1,1,none⟩=some (.slice A2 n2 c2))
   (first | exact ⟨a0,a1,b0,b1⟩ | exact ⟨s5.facts.1,s5.facts.2.1,s5.facts.2.2.1,s5.facts.2.2.2.1⟩ | exact ⟨s6.facts.1,s6.facts.2.1,s6.facts.2.2.1,s6.facts.2.2.2.1⟩ | (simp [go_sem];exact ⟨a0,a1,b0,b1⟩))
   (first
    | (go_at_call 163;(with_reducible refine (NE.out _).mono ?_);rintro e w4 ⟨rfl,hb4⟩;have s5:=s1.drew.via hb4)
    | (go_at_call 113;(with_reducible refine (AD.out _ s5.below).mono ?_);rintro e w5 ⟨A4,n4,c4,rfl,hs4,hb5⟩;have s6:=s5.via hb5;clear a0 a1 b0 b1 r0 r1 rf rz;obtain ⟨a0,a1,b0,b1,r0,r1,rf,rz⟩:=s6.facts)
    | fail "no arm")
  all_goals
   go_wp2_with fail
   obtain ⟨q0,q1⟩:=qd (.bool (ngO r)) (.slice A4 n4 c4) r0 r1
   refine bodyPost_ret (v:=.tuple #[.agg #[.bool (ngO r),.slice A4 n4 c4],.bool (okO r)]) ?_ rfl ⟨_,_,_,rfl,?_,?_⟩
   ·simp [results,Tryz.f144,go_sem,q0,q1]
   ·exact hs4.stored r0 r1 _ _
   ·exact (s6.below.setCell (by simp;omega) _).setCell (by simp;omega) _
end Go.Proofs.YtjcegdldgjphiaaGreatDoor
namespace Go.Proofs.YtjcegdldgjphiaaGreatDoor
open Go.RowKit Go.Shelf
theorem S2.drewN {w W:World} {neg neg2:Bool} {A A2:Option Addr} {n c n2 c2:Nat} (h:S2 w neg A n c neg2 A2 n2 c2 W) (k:Nat):S2 w neg A n c neg2 A2 n2 c2 (W.drewN k):=zI h k
end Go.Proofs.YtjcegdldgjphiaaGreatDoor
namespace Go.Proofs.YtjcegdldgjphiaaGreatDoor
open Go.RowKit Go.Shelf
def Rt (neg:Bool) (v:Nat):Prop:=(v=0→neg=false)∧v<big
section
variable {neg neg2 neg3 neg4:Bool} {v v2 v3 v4:Nat}
theorem Rt.sgn_neg (r:Rt neg v):decide (sgn neg v<0)=neg:=by
 rw [Go.Proofs.YtjcegdldgjphiaaGreatDoor.zkc]
 cases neg with
 | false=>rfl
 | true =>
  have:v≠0:=fun h=>by have:=r.1 h;cases this
  simp [this]
theorem Rt.right (r:Rt neg v):zq neg (digs v)=true:=by
 have h:=zdy (x:=sgn neg v) (by rw [qc];exact r.2)
 rwa [r.sgn_neg,qc] at h
theorem Rt.fit (r:Rt neg v):fitO (sgn neg v)=some (sgn neg v):=by unfold fitO;rw [if_pos (by rw [qc];exact r.2)]
theorem Rt.small {v:Nat} (h:v≤18446744073709551616):Rt false v:=⟨fun _=>rfl,Nat.lt_of_le_of_lt h (by unfold big;exact Nat.lt_of_lt_of_le (m:=4294967296 ^ 3) (by decide) (Nat.pow_le_pow_right (by decide) (by decide)))⟩
theorem Rt.of (x:Int) (h:x.natAbs<big):Rt (decide (x<0)) x.natAbs:=⟨fun e=>by simp;omega,h⟩
theorem Rt.zero:Rt false 0:=Rt.small (by omega)
variable {A A2:Option Addr} {n n2 c c2:Nat} {W:World}
end
def NB (W:World) (b:Nat) (neg:Bool) (v:Nat):Prop:=∃A n c,W.cell? ⟨b,0,none⟩=some (.bool neg)∧W.cell? ⟨b,1,none⟩=some (.slice A n c)∧Sl W W.heap.size A n c (digs v)∧b<W.heap.size
theorem NB.via {W W1:World} {b:Nat} {neg:Bool} {v:Nat} (h:NB W b neg v) (hb:Below W.heap.size W W1):NB W1 b neg v:=by
 obtain ⟨A,n,c,h1,h2,h3,h4⟩:=h
 exact ⟨A,n,c,(hb.cell (p:=⟨b,0,none⟩) h4).trans h1,(hb.cell (p:=⟨b,1,none⟩) h4).trans h2,(h3.below hb).more hb.size,Nat.lt_of_lt_of_le h4 hb.size⟩
theorem NB.new {W:World} {neg:Bool} {v:Nat} {A:Option Addr} {n c:Nat} (h:Sl W W.heap.size A n c (digs v)) (T:TypeId):NB (W.alloc (.cells #[.bool neg,.slice A n c] T)) W.heap.size neg v:=
 ⟨A,n,c,by simp [go_sem],by simp [go_sem],h.alloc_ _,by simp⟩
theorem Sl.via {w w':World} {A:Option Addr} {n c:Nat} {l:List Nat} (h:Sl w w.heap.size A n c l) (hb:Below w.heap.size w w'):Sl w' w'.heap.size A n c l:=(h.below hb).more hb.size
end Go.Proofs.YtjcegdldgjphiaaGreatDoor
namespace Go.Proofs.YtjcegdldgjphiaaGreatDoor
end Go.Proofs.YtjcegdldgjphiaaGreatDoor
namespace Go.Proofs.YtjcegdldgjphiaaGreatDoor
open Go.RowKit Go.Shelf
theorem zsE {v k:Nat} (h:v<4294967296 ^ k):(digs v).length≤k:=by
 rcases Nat.lt_or_ge k (digs v).length with h1 | h1
 ·have hne:digs v≠[]:=fun e=>by rw [e] at h1;simp at h1
  have h2:=za9 (z1 v) hne
  rw [zp] at h2
  have h3:4294967296 ^ k≤4294967296 ^ ((digs v).length - 1):=Nat.pow_le_pow_right (by omega) (by omega)
  omega
 ·exact h1
theorem zqg {l:List Nat} {n:Nat} (hl:Dig l) (hn:l.length=n):blen (nval l)≤32*n:=by
 have h:=qz hl
 rw [hn,p32] at h
 exact ztK h
theorem zrQ {l:List Nat} {n:Nat} (hl:Dig l) (hn:l.length=n) (h2:n≤2):nval l<18446744073709551616:=by
 have h:=qz hl
 rw [hn] at h
 have:4294967296 ^ n≤4294967296 ^ 2:=Nat.pow_le_pow_right (by omega) h2
 omega
theorem Sl.apart {w:World} {B n c g k:Nat} {A:Option Addr} {l:List Nat} (h:Sl w B A n c l) (hA:∀ad,A=some ad→ad.block≠g) (u:Value):Sl (w.setCell ⟨g,k,none⟩ u) B A n c l:=by
 refine ⟨⟨⟨h.1.1.1,fun hn=>?_⟩,h.1.2⟩,h.2⟩
 obtain ⟨ad,e,hb,hc⟩:=h.1.1.2 hn
 refine ⟨ad,e,hb,fun j v hv=>?_⟩
 have hne:=hA ad e
 rw [World.cell?_setCell_other]
 ·exact hc j v hv
 ·intro e2
  apply hne
  have h3:=congrArg Addr.block e2
  rw [qD] at h3
  exact h3.symm
theorem zrW {A A2:Option Addr} {n n2 c c2 B:Nat} {l m:List Nat} {w:World} (h:Sl w B A n c l) (h2:Sl w B A2 n2 c2 m) (hB:B≤w.heap.size) (hn:n≤2) (hn2:n2≤2) (h0:nval m≠0) :
  Calls Tryz.prog 106 #[.slice A n c,.slice A2 n2 c2] w (RetQR (nval l / nval m) (nval l%nval m) w):=by
 have hv:=zrQ h.dig h.len hn
 have hv2:=zrQ h2.dig h2.len hn2
 have WA:=Lib.hid (fun (W:World) (hW:Below w.heap.size w W)=>zqx ((h.more hB).below hW) hn)
 have WB:=Lib.hid (fun (W:World) (hW:Below w.heap.size w W)=>zqx ((h2.more hB).below hW) hn2)
 obtain ⟨x,hx⟩:∃x,nval l=x:=⟨_,rfl⟩
 obtain ⟨y,hy⟩:∃y,nval m=y:=⟨_,rfl⟩
 rw [hx] at hv WA ⊢
 rw [hy] at hv2 h0 WB ⊢
 obtain ⟨q,hq⟩:∃q,x / y=q:=⟨_,rfl⟩
 obtain ⟨r,hr⟩:∃r,x%y=r:=⟨_,rfl⟩
 have e1:(x:Int) / (y:Int)=(q:Int):=by rw [← hq];rfl
 have e2:(x:Int)%(y:Int)=(r:Int):=by rw [← hr];rfl
 have hql:q<18446744073709551616:=by rw [← hq];exact Nat.lt_of_le_of_lt (Nat.div_le_self _ _) hv
 have hrl:r<18446744073709551616:=by rw [← hr];exact Nat.lt_of_le_of_lt (Nat.mod_le _ _) hv
 have hyn:(y:Int)≠0:=by omega
 have hbb:=Below.refl w.heap.size w
 have hn':(n:Int)≤2:=by omega
 have hn2':(n2:Int)≤2:=by omega
 rw [hq,hr]
 clear h h2 hx hy hq hr h0 hn hn2
 have tk1:Hid True:=trivial
 go_enter Tryz.func106,Tryz.ntmps106
 go_wp2_with (first
  | (go_at_call 129;(with_reducible refine (WA.out _ hbb).mono ?_);rintro e w1 ⟨rfl,rfl⟩)
  | (go_at_call 129;(with_reducible refine (WB.out _ hbb).mono ?_);rintro e w1 ⟨rfl,rfl⟩)
  | (clear tk1;go_at_call 91;go_loud ((with_reducible refine (zeh q _ hql).mono ?_);rintro e w3 ⟨A3,n3,c3,rfl,hs3,hb⟩;replace hbb:=hbb.trans (hb.mono hbb.size);clear hb))
  | (go_at_call 91;go_loud ((with_reducible refine (zeh r _ hrl).mono ?_);rintro e w4 ⟨A4,n4,c4,rfl,hs4,hb⟩;replace hs3:=hs3.via hb;replace hbb:=hbb.trans (hb.mono hbb.size);clear hb))
  | fail "no arm")
 go_ret2
 exact ⟨_,_,_,_,_,_,rfl,hs3,hs4,hbb⟩
theorem zsj {A A2:Option Addr} {n n2 c c2 B:Nat} {l m:List Nat} {w:World} (h:Sl w B A n c l) (h2:Sl w B A2 n2 c2 m) (hB:B≤w.heap.size) (hl:Canon l) (hm:Canon m) (hn:n≤64) (hn2:n2≤64) (hbig:¬ (n≤2∧n2≤2)) (hlt:blen (nval l)<blen (nval m)) :
  Calls Tryz.prog 106 #[.slice A n c,.slice A2 n2 c2] w (RetQR (nval l / nval m) (nval l%nval m) w):=by
 have hvl:=zsT hlt
 rw [Nat.div_eq_of_lt hvl,Nat.mod_eq_of_lt hvl]
 have LA:=Lib.hid (zpz h hl (by omega))
 have LB:=Lib.hid (zpz h2 hm (by omega))
 have hb1:=zqg h.dig h.len
 have hb2:=zqg h2.dig h2.len
 have hs:=Lib.hid (show Sl w w.heap.size A n c (digs (nval l)) by rw [← zbz hl];exact h.more hB)
 obtain ⟨x,hx⟩:∃x,blen (nval l)=x:=⟨_,rfl⟩
 obtain ⟨y,hy⟩:∃y,blen (nval m)=y:=⟨_,rfl⟩
 rw [hx] at LA hlt hb1
 rw [hy] at LB hlt hb2
 have hlt':(x:Int) - y<0:=by omega
 have hxx:x≤3000:=by omega
 have hyy:y≤3000:=by omega
 clear h h2 hx hy hl hm hlt hb1 hb2 hvl
 rcases (show (2:Int)<n∨((n:Int)≤2∧(2:Int)<n2) by omega) with hc | ⟨hc,hc2⟩
 all_goals
  go_enter Tryz.func106,Tryz.ntmps106
  go_wp2_with (first
   | (go_at_call 130;(with_reducible refine LA.out.mono ?_);rintro e w1 ⟨rfl,rfl⟩)
   | (go_at_call 130;(with_reducible refine LB.out.mono ?_);rintro e w1 ⟨rfl,rfl⟩)
   | fail "no arm")
  go_ret2
  exact ⟨_,_,_,_,_,_,rfl,(by rw [zw];exact Sl.none_),hs.out,Below.refl _ _⟩
def DvI (W:World) (g V D j n1:Nat) (A3:Option Addr) (n3 c3:Nat) (o:List Nat):Prop:=
 DBk W g 123 o∧Sl W W.heap.size A3 n3 c3 (digs (V / 2 ^ j%D))∧(∀ad,A3=some ad→ad.block≠g)∧o.length=n1∧Dig o∧nval o=V / 2 ^ j / D*2 ^ j
theorem zsk {A A2:Option Addr} {n n2 c c2 B:Nat} {l m:List Nat} {w:World} (h:Sl w B A n c l) (h2:Sl w B A2 n2 c2 m) (hB:B≤w.heap.size) (hl:Canon l) (hm:Canon m) (hn:n≤64) (hn2:n2≤64) (h0:nval m≠0) (hbig:¬ (n≤2∧n2≤2)) (hge:blen (nval m)≤blen (nval l)) :
  Calls Tryz.prog 106 #[.slice A n c,.slice A2 n2 c2] w (RetQR (nval l / nval m) (nval l%nval m) w):=by
 have LA:=Lib.hid (zpz h hl (by omega))
 have LB:=Lib.hid (zpz h2 hm (by omega))
 have hb1:=zqg h.dig h.len
 have hb2:=zqg h2.dig h2.len
 obtain ⟨f,hf⟩:∃f,blen (nval l) - blen (nval m)=f:=⟨_,rfl⟩
 have hst:=Lib.hid (zu6 (V:=nval l) (W:=nval m) (f:=f) h0 (by omega))
 have hbm:0<blen (nval m):=by rw [zpq h0];omega
 have HN:=Lib.hid (show f<32*n by omega)
 have H:=Lib.hid (h.more hB)
 have H2:=Lib.hid (h2.more hB)
 have HM:=Lib.hid hm
 have HV:=Lib.hid (show nval m<4294967296 ^ 64 from (qK hm).1 (by rw [h2.len];exact hn2))
 have WI:=Lib.hid (fun (W:World) (hW:Below w.heap.size w W) (f:Nat) (hf:f≤100000)=>zsw f ((h.more hB).below hW) hW.size (by omega) hf)
 have BT:=Lib.hid (fun (W:World) (hW:Below w.heap.size w W) (k:Nat) (hk:k / 32<n)=>zvq k ((h.more hB).below hW) hk)
 obtain ⟨V,hV⟩:∃V,nval l=V:=⟨_,rfl⟩
 obtain ⟨D,hD⟩:∃D,nval m=D:=⟨_,rfl⟩
 rw [hV] at WI BT hst
 rw [hD] at hst HV h0
 have HD:=Lib.hid hD
 have hD0:Hid (D≠0):=Lib.hid h0
 rw [hV,hD]
 rw [hV] at LA
 rw [hD] at LB
 rw [hV,hD] at hf hge
 obtain ⟨x,hx⟩:∃x,blen V=x:=⟨_,rfl⟩
 obtain ⟨y,hy⟩:∃y,blen D=y:=⟨_,rfl⟩
 rw [hV,hx] at hb1
 rw [hD,hy] at hb2
 rw [hx] at LA hf hge
 rw [hy] at LB hf hge
 have e1:(x:Int) - y=(f:Int):=by omega
 have hxx:x≤3000:=by omega
 have hyy:y≤3000:=by omega
 have hff:f≤3000:=by omega
 obtain ⟨k0,hk0⟩:∃k0,f / 32=k0:=⟨_,rfl⟩
 obtain ⟨n1,hn1⟩:∃n1,k0+1=n1:=⟨_,rfl⟩
 obtain ⟨f1,hf1⟩:∃f1,f+1=f1:=⟨_,rfl⟩
 have e2:(f:Int) / 32=(k0:Int):=by omega
 have e3:(k0:Int)+1=(n1:Int):=by omega
 have e4:(f:Int)+1=(f1:Int):=by omega
 have HK:=Lib.hid (show ∀j,j≤f→j / 32<n1 by intro j hj;omega)
 have hkl:k0≤1000:=by omega
 have hfl:f1≤100000:=by omega
 have hnl:n1≤1000:=by omega
 have hmk:=zp5 n1 (by omega)
 rw [hf1] at hst
 have hf1':=Lib.hid hf1
 clear h h2 hV hD hx hy hl hm hb1 hb2 hbm h0 hf hge hk0 hn1 hf1
 rcases (show (2:Int)<n∨((n:Int)≤2∧(2:Int)<n2) by omega) with hc | ⟨hc,hc2⟩
 all_goals
  go_enter Tryz.func106,Tryz.ntmps106
  go_upto_region 7 with (first
   | (go_at_call 130;(with_reducible refine LA.out.mono ?_);rintro e w1 ⟨rfl,rfl⟩)
   | (go_at_call 130;(with_reducible refine LB.out.mono ?_);rintro e w1 ⟨rfl,rfl⟩)
   | fail "no arm")
  have d0:=DBk.new w 123 n1
  have hBW:Below w.heap.size w (w.alloc (.cells (madeCells #[.int .u32 0] n1) 123)):=(Below.refl _ _).alloc (Nat.le_refl _) _
  have hz1:(w.alloc (.cells (madeCells #[.int .u32 0] n1) 123)).heap.size=w.heap.size+1:=by simp
  obtain ⟨W1,hW1⟩:∃W1,w.alloc (.cells (madeCells #[.int .u32 0] n1) 123)=W1:=⟨_,rfl⟩
  rw [hW1] at d0 hBW hz1 ⊢
  clear hmk hW1
  go_wp2_with (first
   | (go_at_call 131;go_loud ((with_reducible refine (WI.out _ hBW f1 hfl).mono ?_);rintro e w2 ⟨A3,n3,c3,rfl,hs3,hb,hfr⟩;have hBB:=hBW.trans (hb.mono hBW.size);replace d0:=d0.below hb (by omega)))
   | fail "no arm")
  go_loopw [8,9] (fun x y W=>∃(j:Nat) (z:Int) (A3:Option Addr) (n3 c3:Nat) (o:List Nat),j≤f1∧x=.slice A3 n3 c3∧y=.int .i64 z∧z=(j:Int) - 1∧Below w.heap.size w W∧Hid (DvI W w.heap.size V D j n1 A3 n3 c3 o)) (fun _ y _=>(intOf y+1).toNat)
  case atStart =>
   exact ⟨f1,_,A3,n3,c3,List.replicate n1 0,by omega,rfl,rfl,by omega,hBB,Lib.hid ⟨d0,by rw [Nat.mod_eq_of_lt hst.out];exact hs3,fun ad e=>by have:=hfr ad e;omega,by simp,qO n1,by rw [zbM,Nat.div_eq_of_lt hst.out,Nat.zero_mul]⟩⟩
  case round =>
   clear hs3 hb hfr hBB d0 hBW hz1
   obtain ⟨j,z,A3,n3,c3,o,hj,rfl,rfl,hz,hBB,hI⟩:=hrel
   cases j with
   | zero =>
    obtain rfl:z=-1:=by omega
    clear hz
    have hq:=Lib.hid (show nval o=V / D by have:=hI.out.2.2.2.2.2;simpa using this)
    have hsq:Sl wr wr.heap.size (some ⟨w.heap.size,0,none⟩) n1 n1 o:=by
     have:=hI.out.1.sl hI.out.2.2.2.2.1 hI.out.1.lt (by rw [hI.out.2.2.2.1];omega)
     rwa [hI.out.2.2.2.1] at this
    have hs3:=hI.out.2.1
    rw [Nat.pow_zero,Nat.div_one] at hs3
    clear hI
    go_wp2_with (first
     | (go_at_call 107;(with_reducible refine (za5 (v:=V / D) hsq hq.out).mono ?_);rintro e w2 ⟨n',rfl,hs5,rfl⟩)
     | fail "no arm")
    go_ret2
    exact ⟨_,_,_,_,_,_,rfl,hs5,hs3,hBB⟩
   | succ j =>
    obtain rfl:z=(j:Int):=by omega
    clear hz
    have hjf:j≤f:=by have:=hf1'.out;omega
    have hk:j / 32<n:=by have:=HN.out;omega
    obtain ⟨i1,i2,i3,i4,i5,i6⟩:=hI.out
    have hdb:=zvz (V:=V) (k:=j)
    obtain ⟨b0,hb0⟩:∃b0,V / 2 ^ j%2=b0:=⟨_,rfl⟩
    have hb01:b0≤1:=by omega
    have QS:=zu4 (A:=V / 2 ^ (j+1)) (W:=D) hb01 (by have:=hD0.out;omega)
    rw [hb0] at hdb
    rw [← hdb] at QS
    obtain ⟨R,hR⟩:∃R,V / 2 ^ (j+1)%D=R:=⟨_,rfl⟩
    obtain ⟨Q,hQ⟩:∃Q,V / 2 ^ (j+1) / D=Q:=⟨_,rfl⟩
    have hRD:R<D:=by rw [← hR];exact Nat.mod_lt _ (by have:=hD0.out;omega)
    rw [hR] at i2 QS
    rw [hQ] at i6 QS
    have hn3:n3≤64:=by
     have:=zsE (Nat.lt_trans hRD HV.out)
     rwa [i2.len] at this
    obtain ⟨r2,hr2⟩:∃r2,2*R+b0=r2:=⟨_,rfl⟩
    rw [hr2] at QS
    have hr2f:r2<4294967296 ^ 65:=by
     have:=HV.out
     have h65:(4294967296:Nat) ^ 65=4294967296 ^ 64*4294967296:=Nat.pow_succ ..
     omega
    have BI:=Lib.hid (BT.out _ hBB j hk)
    rw [hb0] at BI
    have TW:=Lib.hid (zue b0 i2 (Nat.le_refl _) (by omega) hb01)
    rw [zp,hr2] at TW
    have CP:=Lib.hid (fun (W:World) (hW:Below w.heap.size w W) (A4:Option Addr) (n4 c4:Nat) (h:Sl W W.heap.size A4 n4 c4 (digs r2))=>zaY h ((H2.out.below hW).more hW.size) (Nat.le_refl _) (z1 r2) HM.out)
    rw [zp,HD.out] at CP
    have hgz:w.heap.size<wr.heap.size:=i1.lt
    rcases Nat.lt_or_ge r2 D with hlt | hge
    ·obtain ⟨q1,q2⟩:=QS.2 hlt
     rw [q6 hlt] at CP
     have hN:=Lib.hid (And.intro q2 (show V / 2 ^ j / D*2 ^ j=nval o by rw [q1,i6,Nat.pow_succ];rw [Nat.mul_comm 2 Q,Nat.mul_assoc,Nat.mul_comm 2 (2 ^ j)]))
     clear QS hdb hb0 hR hQ hRD hr2 hr2f q1 q2 i6 hlt i2 hI hk
     go_wp2_with (first
      | (go_at_call 133;(with_reducible refine BI.out.mono ?_);rintro e w1 ⟨rfl,rfl⟩)
      | (go_at_call 132;(with_reducible refine TW.out.mono ?_);rintro e w2 ⟨A4,n4,c4,rfl,hs4,hb,hfr⟩;replace hBB:=hBB.trans (hb.mono hBB.size);replace i1:=i1.below hb hgz)
      | (go_at_call 105;(with_reducible refine (CP.out _ hBB _ _ _ hs4).mono ?_);rintro e w3 ⟨rfl,hb3⟩;replace hBB:=hBB.trans (hb3.mono hBB.size);replace i1:=i1.below hb3 i1.lt;replace hs4:=hs4.via hb3)
      | fail "no arm")
     refine ⟨⟨j,_,A4,n4,c4,o,by omega,rfl,rfl,rfl,hBB,Lib.hid ⟨i1,by rw [hN.out.1];exact hs4,fun ad e=>by have:=hfr ad e;omega,i4,i5,hN.out.2.symm⟩⟩,?_⟩
     simp [intOf]
    ·obtain ⟨q1,q2⟩:=QS.1 hge
     have MI:=Lib.hid (fun (W:World) (hW:Below w.heap.size w W) (A4:Option Addr) (n4 c4:Nat) (h:Sl W W.heap.size A4 n4 c4 (digs r2))=>zix A4 A2 n4 c4 n2 c2 W.heap.size (digs r2) m W h ((H2.out.below hW).more hW.size) (Nat.le_refl _) (by rw [← h.len];have:=zsE hr2f;omega) (by rw [← h.len,← H2.out.len];exact zav HM.out (z1 r2).1 (by rw [HD.out,zp];exact hge)) (by rw [HD.out,zp];exact hge))
     rw [zp,HD.out] at MI
     have hc3:=zgh hge
     obtain ⟨oo,hoo⟩:∃oo,cmpv r2 D=oo:=⟨_,rfl⟩
     rw [hoo] at CP hc3
     obtain ⟨k,hkk⟩:∃k,j / 32=k:=⟨_,rfl⟩
     obtain ⟨r,hrr⟩:∃r,j%32=r:=⟨_,rfl⟩
     have hkn:=HK.out j hjf
     have hlow:=zwm i5 i6
     have hx4:=dg_lt i5 k
     rw [hkk,hrr] at hlow
     rw [hkk] at hkn
     have hcg:=fun (W:World) (h:DBk W w.heap.size 123 o)=>h.cell (k:=k) (by rw [i4];exact hkn)
     have HNV:=Lib.hid (zhG o k)
     obtain ⟨x0,hx0⟩:∃x0,dg o k=x0:=⟨_,rfl⟩
     rw [hx0] at hlow hx4 hcg HNV
     obtain ⟨p,hp⟩:∃p,2 ^ r=p:=⟨_,rfl⟩
     obtain ⟨y0,hy0⟩:∃y0,x0+p=y0:=⟨_,rfl⟩
     have hyl:y0<4294967296:=by
      have:=zu3 (k:=j) hx4 (by rw [hrr];exact hlow)
      rw [hrr,hp] at this
      omega
     have eo:bits .or .u32 (x0:Int) (p:Int)=(y0:Int):=by
      rw [bor32 x0 p hx4 (by omega),← hp,zww hlow,hp,hy0]
     have ek:(j:Int) / 32=(k:Int):=by omega
     have er:(j:Int)%32=(r:Int):=by omega
     have ep:(2:Int) ^ r=(p:Int):=by rw [← hp];simp
     have hpl:p<4294967296:=by omega
     have hr32:r<32:=by omega
     have hkn1:(k:Int)<n1:=by omega
     have hP:=zt6 j
     rw [hkk,hrr,hp] at hP
     have hN:=Lib.hid (And.intro q2 (show nval (o.set k y0)=V / 2 ^ j / D*2 ^ j by
      have h9:=HNV.out y0 (by rw [i4];exact hkn)
      rw [← hy0,Nat.mul_add,hP] at h9
      rw [← hy0,q1,Nat.add_mul,Nat.one_mul,Nat.mul_comm 2 Q,Nat.mul_assoc,← Nat.pow_succ',← i6]
      omega))
     have hset:=Lib.hid (qk (k:=k) i5 hyl)
     clear QS hdb hb0 hR hQ hRD hr2 hr2f q1 q2 i6 hge i2 hI hk hoo hkk hrr hlow hx0 hp hy0 hP HNV
     go_upto_region 14 with (first
      | (go_at_call 133;(with_reducible refine BI.out.mono ?_);rintro e w1 ⟨rfl,rfl⟩)
      | (go_at_call 132;(with_reducible refine TW.out.mono ?_);rintro e w2 ⟨A4,n4,c4,rfl,hs4,hb,hfr⟩;replace hBB:=hBB.trans (hb.mono hBB.size);replace i1:=i1.below hb hgz)
      | (go_at_call 105;(with_reducible refine (CP.out _ hBB _ _ _ hs4).mono ?_);rintro e w3 ⟨rfl,hb3⟩;replace hBB:=hBB.trans (hb3.mono hBB.size);replace i1:=i1.below hb3 i1.lt;replace hs4:=hs4.via hb3;replace hgz:=i1.lt)
      | (go_at_call 134;go_loud ((with_reducible refine (MI.out _ hBB _ _ _ hs4).mono ?_);rintro e w4 ⟨A5,n5,c5,rfl,hs5,hb4,hfr5⟩;replace hBB:=hBB.trans (hb4.mono hBB.size);replace i1:=i1.below hb4 i1.lt))
      | fail "no arm")
     have hc4:=hcg _ i1
     have hfz:=i1.frozen k
     have hlt4:=i1.lt
     have hnxt:Hid (Below w.heap.size w ((w4.setCell ⟨w.heap.size,k,none⟩ (.int .u32 (y0:Nat))).drew)∧DvI ((w4.setCell ⟨w.heap.size,k,none⟩ (.int .u32 (y0:Nat))).drew) w.heap.size V D j n1 A5 n5 c5 (o.set k y0)):=by
      have hd5:=i1.set k y0
      have hs6:=hs5.apart (g:=w.heap.size) (k:=k) (fun ad e=>by have:=hfr5 ad e;omega) (.int .u32 (y0:Nat))
      refine ⟨(hBB.setCell (p:=⟨w.heap.size,k,none⟩) (Nat.le_refl _) _).drew,hd5.below (Below.drew (Below.refl _ _)) hd5.lt,?_,?_,by simpa using i4,hset.out,hN.out.2⟩
      ·rw [hN.out.1]
       exact (hs6.below (Below.drew (Below.refl _ _))).more (by simp [World.setCell,World.drew])
      ·intro ad e
       have:=hfr5 ad e
       omega
     go_region
     all_goals
      go_wp2_with fail
      refine ⟨⟨j,_,A5,n5,c5,o.set k y0,by omega,rfl,rfl,rfl,hnxt.out.1,Lib.hid hnxt.out.2⟩,?_⟩
      simp [intOf]
theorem zpZ {A A2:Option Addr} {n n2 c c2 B:Nat} {l m:List Nat} {w:World} (h:Sl w B A n c l) (h2:Sl w B A2 n2 c2 m) (hB:B≤w.heap.size) (hl:Canon l) (hm:Canon m) (hn:n≤64) (hn2:n2≤64) (h0:nval m≠0) :
  Calls Tryz.prog 106 #[.slice A n c,.slice A2 n2 c2] w (RetQR (nval l / nval m) (nval l%nval m) w):=by
 by_cases hb:n≤2∧n2≤2
 ·exact zrW h h2 hB hb.1 hb.2 h0
 ·rcases Nat.lt_or_ge (blen (nval l)) (blen (nval m)) with hlt | hge
  ·exact zsj h h2 hB hl hm hn hn2 hb hlt
  ·exact zsk h h2 hB hl hm hn hn2 h0 hb hge
theorem zux {m:List Nat} {n2:Nat} (hm:Canon m) (hl:m.length=n2) (k0:0<n2):nval m≠0:=fun h0=>by
 have:=qL hm h0
 rw [this] at hl
 simp at hl
 omega
theorem zs6 (neg neg2:Bool) {A A2:Option Addr} {n n2 c c2 B:Nat} {l:List Nat} {w:World} (h:Sl w B A n c l) (hB:B≤w.heap.size) (h1:zq neg l=false) :
  Calls Tryz.prog 143 #[.agg #[.bool neg,.slice A n c],.agg #[.bool neg2,.slice A2 n2 c2]] w (zqU none w):=by
 have R1:=Lib.hid (zZ neg (h.more hB) false h1)
 have s0:=Sd.start (w:=w) (neg:=neg) (A:=A) (n:=n) (c:=c) (neg2:=neg2) (A2:=A2) (n2:=n2) (c2:=c2)
 clear h h1
 go_enter Tryz.func143,Tryz.ntmps143
 go_wp2_with (go_at_call 75;refine (R1.out _ s0.below).mono ?_;rintro e w1 ⟨rfl,hb⟩;have s1:=s0.via hb;obtain ⟨a0,a1,b0,b1,q0,q1,qf,r0,r1,rf,rz⟩:=s1.facts)
 obtain ⟨p0,p1,p2,p3⟩:=zpy (.bool false) (.slice none 0 0) (.bool false) (.slice none 0 0) q0 q1 r0 r1 (by omega)
 refine bodyPost_ret (v:=.tuple #[.agg #[.bool false,.slice none 0 0],.agg #[.bool false,.slice none 0 0],.bool false]) ?_ rfl ⟨_,_,_,_,_,_,rfl,by rw [show digs (dqO none).natAbs=[] from zw];exact Sl.none_,by rw [show digs (drO none).natAbs=[] from zw];exact Sl.none_,?_⟩
 ·simp [results,Tryz.f143,go_sem,p0,p1,p2,p3]
 ·exact (((s1.below.setCell (by simp;omega) _).setCell (by simp;omega) _).setCell (by simp;omega) _).setCell (by simp;omega) _
theorem zs7 (neg neg2:Bool) {A A2:Option Addr} {n n2 c c2 B:Nat} {l m:List Nat} {w:World} (h:Sl w B A n c l) (h2:Sl w B A2 n2 c2 m) (hB:B≤w.heap.size) (h1:zq neg l=true) (k1:zq neg2 m=false) :
  Calls Tryz.prog 143 #[.agg #[.bool neg,.slice A n c],.agg #[.bool neg2,.slice A2 n2 c2]] w (zqU none w):=by
 have R1:=Lib.hid (zZ neg (h.more hB) true h1)
 have R2:=Lib.hid (zZ neg2 (h2.more hB) false k1)
 have s0:=Sd.start (w:=w) (neg:=neg) (A:=A) (n:=n) (c:=c) (neg2:=neg2) (A2:=A2) (n2:=n2) (c2:=c2)
 clear h h1 h2 k1
 go_enter Tryz.func143,Tryz.ntmps143
 go_wp2_with (first
  | (go_at_call 75;(with_reducible refine (R1.out _ s0.below).mono ?_);rintro e w1 ⟨rfl,hb⟩;have s1:=s0.via hb;obtain ⟨a0,a1,b0,b1,q0,q1,qf,r0,r1,rf,rz⟩:=s1.facts)
  | (go_at_call 75;(with_reducible refine (R2.out _ s1.below).mono ?_);rintro e w2 ⟨rfl,hb⟩;have s2:=s1.via hb;clear a0 a1 b0 b1 q0 q1 qf r0 r1 rf rz;obtain ⟨a0,a1,b0,b1,q0,q1,qf,r0,r1,rf,rz⟩:=s2.facts)
  | fail "no arm")
 obtain ⟨p0,p1,p2,p3⟩:=zpy (.bool false) (.slice none 0 0) (.bool false) (.slice none 0 0) q0 q1 r0 r1 (by omega)
 refine bodyPost_ret (v:=.tuple #[.agg #[.bool false,.slice none 0 0],.agg #[.bool false,.slice none 0 0],.bool false]) ?_ rfl ⟨_,_,_,_,_,_,rfl,by rw [show digs (dqO none).natAbs=[] from zw];exact Sl.none_,by rw [show digs (drO none).natAbs=[] from zw];exact Sl.none_,?_⟩
 ·simp [results,Tryz.f143,go_sem,p0,p1,p2,p3]
 ·exact (((s2.below.setCell (by simp;omega) _).setCell (by simp;omega) _).setCell (by simp;omega) _).setCell (by simp;omega) _
theorem zs8 (neg neg2:Bool) {A A2:Option Addr} {n n2 c c2 B:Nat} {l m:List Nat} {w:World} (h:Sl w B A n c l) (h2:Sl w B A2 n2 c2 m) (hB:B≤w.heap.size) (h1:zq neg l=true) (k1:zq neg2 m=true) (k0:m=[]) :
  Calls Tryz.prog 143 #[.agg #[.bool neg,.slice A n c],.agg #[.bool neg2,.slice A2 n2 c2]] w (zqU none w):=by
 have hn0:n2=0:=by rw [← h2.len,k0];rfl
 subst hn0
 have R1:=Lib.hid (zZ neg (h.more hB) true h1)
 have R2:=Lib.hid (zZ neg2 (h2.more hB) true k1)
 have s0:=Sd.start (w:=w) (neg:=neg) (A:=A) (n:=n) (c:=c) (neg2:=neg2) (A2:=A2) (n2:=0) (c2:=c2)
 clear h h1 h2 k1 k0
 go_enter Tryz.func143,Tryz.ntmps143
 go_wp2_with (first
  | (go_at_call 75;(with_reducible refine (R1.out _ s0.below).mono ?_);rintro e w1 ⟨rfl,hb⟩;have s1:=s0.via hb;obtain ⟨a0,a1,b0,b1,q0,q1,qf,r0,r1,rf,rz⟩:=s1.facts)
  | (go_at_call 75;(with_reducible refine (R2.out _ s1.below).mono ?_);rintro e w2 ⟨rfl,hb⟩;have s2:=s1.via hb;clear a0 a1 b0 b1 q0 q1 qf r0 r1 rf rz;obtain ⟨a0,a1,b0,b1,q0,q1,qf,r0,r1,rf,rz⟩:=s2.facts)
  | fail "no arm")
 obtain ⟨p0,p1,p2,p3⟩:=zpy (.bool false) (.slice none 0 0) (.bool false) (.slice none 0 0) q0 q1 r0 r1 (by omega)
 refine bodyPost_ret (v:=.tuple #[.agg #[.bool false,.slice none 0 0],.agg #[.bool false,.slice none 0 0],.bool false]) ?_ rfl ⟨_,_,_,_,_,_,rfl,by rw [show digs (dqO none).natAbs=[] from zw];exact Sl.none_,by rw [show digs (drO none).natAbs=[] from zw];exact Sl.none_,?_⟩
 ·simp [results,Tryz.f143,go_sem,p0,p1,p2,p3]
 ·exact (((s2.below.setCell (by simp;omega) _).setCell (by simp;omega) _).setCell (by simp;omega) _).setCell (by simp;omega) _
theorem zr0 (neg neg2:Bool) {A A2:Option Addr} {n n2 c c2 B:Nat} {l m:List Nat} {w:World} (h:Sl w B A n c l) (h2:Sl w B A2 n2 c2 m) (hB:B≤w.heap.size) (h1:zq neg l=true) (k1:zq neg2 m=true) (k0:0<n2) (hz:neg=false∨nval l%nval m=0) :
  Calls Tryz.prog 143 #[.agg #[.bool neg,.slice A n c],.agg #[.bool neg2,.slice A2 n2 c2]] w (zqU (some (sgn (!(neg == neg2)) (nval l / nval m),sgn false (nval l%nval m))) w):=by
 have R1:=Lib.hid (zZ neg (h.more hB) true h1)
 have R2:=Lib.hid (zZ neg2 (h2.more hB) true k1)
 have hl:=zJ h1 h.dig
 have hm:=zJ k1 h2.dig
 have hn:=hl.2.1
 rw [h.len] at hn
 have hn2:=hm.2.1
 rw [h2.len] at hn2
 have hlb:nval l<big:=(qK hl.1).1 hl.2.1
 have hmb:nval m<big:=(qK hm.1).1 hm.2.1
 have hqb:nval l / nval m<big:=Nat.lt_of_le_of_lt (Nat.div_le_self _ _) hlb
 have hrb:nval l%nval m<big:=Nat.lt_of_le_of_lt (Nat.mod_le _ _) hlb
 have OV:=Lib.hid (fun (W:World) (hW:Below w.heap.size w W)=>show Calls Tryz.prog 106 #[.slice A n c,.slice A2 n2 c2] W (RetQR (nval l / nval m) (nval l%nval m) W) from zpZ ((h.more hB).below hW) ((h2.more hB).below hW) hW.size hl.1 hm.1 hn hn2 (zux hm.1 h2.len k0))
 have s0:=Sd.start (w:=w) (neg:=neg) (A:=A) (n:=n) (c:=c) (neg2:=neg2) (A2:=A2) (n2:=n2) (c2:=c2)
 have hne:((n2:Int) == 0)=false:=by simp;omega
 have hne2:(n2:Int)≠0:=by omega
 obtain ⟨q,hq⟩:∃q,nval l / nval m=q:=⟨_,rfl⟩
 obtain ⟨r,hr⟩:∃r,nval l%nval m=r:=⟨_,rfl⟩
 have hF:Hid (vO (fitO (sgn (!(neg == neg2)) q))=sgn (!(neg == neg2)) q∧ngO (fitO (sgn (!(neg == neg2)) q))=decide (sgn (!(neg == neg2)) q<0)∧vO (fitO (sgn false r))=sgn false r∧ngO (fitO (sgn false r))=decide (sgn false r<0)):=by
  have e1:=zsI (x:=sgn (!(neg == neg2)) q) (by (have:(sgn (!(neg == neg2)) q).natAbs=q:=by (unfold sgn;split<;>simp));rw [this,← hq];exact hqb)
  have e2:=zsI (x:=sgn false r) (by (have:(sgn false r).natAbs=r:=by (unfold sgn;simp));rw [this,← hr];exact hrb)
  exact ⟨e1.1,e1.2,e2.1,e2.2⟩
 rw [hr] at hz
 rw [hq,hr] at OV ⊢
 clear h h1 h2 k1 hl hm hlb hmb hqb hrb hq hr hn k0
 have hguard:Hid (∀{W:World} {B A n c},Sl W B A n c (digs r)→neg=true→n=0):=fun {W B A n c} hs hn=>by
  rcases hz with hz | hz
  ·rw [hn] at hz;cases hz
  ·have:=hs.len;rw [hz,zw] at this;exact this.symm
 clear hz
 cases neg
 ·clear hguard
  rw [show (!(false == neg2))=neg2 by cases neg2<;>rfl] at hF ⊢
  go_enter Tryz.func143,Tryz.ntmps143
  go_wp2_with (first
   | (go_at_call 75;(with_reducible refine (R1.out _ s0.below).mono ?_);rintro e w1 ⟨rfl,hb⟩;have s1:=s0.via hb;obtain ⟨a0,a1,b0,b1,q0,q1,qf,r0,r1,rf,rz⟩:=s1.facts)
   | (go_at_call 75;(with_reducible refine (R2.out _ s1.below).mono ?_);rintro e w2 ⟨rfl,hb⟩;have s2:=s1.via hb;clear a0 a1 b0 b1 q0 q1 qf r0 r1 rf rz;obtain ⟨a0,a1,b0,b1,q0,q1,qf,r0,r1,rf,rz⟩:=s2.facts)
   | (go_at_call 106;(with_reducible refine (OV.out _ s2.below).mono ?_);rintro e w3 ⟨A3,n3,c3,A4,n4,c4,rfl,hsq,hsr,hb3⟩;have s3:=s2.via hb3;clear a0 a1 b0 b1 q0 q1 qf r0 r1 rf rz;obtain ⟨a0,a1,b0,b1,q0,q1,qf,r0,r1,rf,rz⟩:=s3.facts)
   | (go_at_call 90;(with_reducible refine (zaU A3 n3 c3 w3.heap.size _ _ _ w3 hsq (Nat.le_refl _) (zp _)).mono ?_);rintro e w4 ⟨A5,n5,c5,rfl,hs5,hb4⟩;have s4:=s3.via hb4;clear a0 a1 b0 b1 q0 q1 qf r0 r1 rf rz;obtain ⟨a0,a1,b0,b1,q0,q1,qf,r0,r1,rf,rz⟩:=s4.facts)
   | (go_at_call 90;(with_reducible refine (zaU A4 _ c4 w3.heap.size _ _ _ _ (hsr.below (hb4.alloc (Nat.le_trans hb4.size (Nat.le_refl _)) _)) (by have:=hb4.size;simp;omega) (zp _)).mono ?_);rintro e w5 ⟨A6,n6,c6,rfl,hs6,hb5⟩;have s5:=(s4.alloc _).via hb5;obtain ⟨e0,e1⟩:=S1.facts (w:=w4) (A:=A5) (n:=n5) (c:=c5) (hb5.mono (by simp));have hz5:=hb5.size;(try simp at hz5);clear a0 a1 b0 b1 q0 q1 qf r0 r1 rf rz;obtain ⟨a0,a1,b0,b1,q0,q1,qf,r0,r1,rf,rz⟩:=s5.facts)
   | fail "no arm")
  have hy5:w4.heap.size<w5.heap.size:=by omega
  have s6:=s5.alloc (.cells #[.bool (ngO (fitO (sgn false r))),.slice A6 n6 c6] 30)
  have k0:=(World.cell?_alloc_lt w5 (.cells #[.bool (ngO (fitO (sgn false r))),.slice A6 n6 c6] 30) ⟨w4.heap.size,0,none⟩ hy5).trans e0
  have k1:=(World.cell?_alloc_lt w5 (.cells #[.bool (ngO (fitO (sgn false r))),.slice A6 n6 c6] 30) ⟨w4.heap.size,1,none⟩ hy5).trans e1
  obtain ⟨g0,g1⟩:=(S1.start (w:=w5) (neg:=ngO (fitO (sgn false r))) (A:=A6) (n:=n6) (c:=c6)).facts
  have hs7:=(hs6.below ((Below.refl _ _).alloc (Nat.le_refl _) (.cells #[.bool (ngO (fitO (sgn false r))),.slice A6 n6 c6] 30))).more (B':=(w5.alloc (.cells #[.bool (ngO (fitO (sgn false r))),.slice A6 n6 c6] 30)).heap.size) (by simp)
  have hs8:=(hs5.below (((Below.refl _ _).alloc (Nat.le_refl _) _).trans ((hb5.mono (by simp)).alloc (by omega) (.cells #[.bool (ngO (fitO (sgn false r))),.slice A6 n6 c6] 30)))).more (B':=(w5.alloc (.cells #[.bool (ngO (fitO (sgn false r))),.slice A6 n6 c6] 30)).heap.size) (by simp;omega)
  obtain ⟨W6,hW6⟩:∃W6,w5.alloc (.cells #[.bool (ngO (fitO (sgn false r))),.slice A6 n6 c6] 30)=W6:=⟨_,rfl⟩
  rw [hW6] at s6 k0 k1 g0 g1 hs7 hs8 ⊢
  have y4:=s4.size
  have y5:=s5.size
  have y1:w5.heap.size≠w.heap.size+1+1:=by omega
  have y2:w5.heap.size≠w.heap.size+1+1+1:=by omega
  have y3:w4.heap.size≠w.heap.size+1+1:=by omega
  have y6:w4.heap.size≠w.heap.size+1+1+1:=by omega
  clear a0 a1 b0 b1 q0 q1 qf r0 r1 rf rz e0 e1 hs5 hs6 hW6
  obtain ⟨a0,a1,b0,b1,q0,q1,qf,r0,r1,rf,rz⟩:=s6.facts
  go_region
  go_wp2_with fail
  obtain ⟨f1,f2,f3,f4⟩:=hF.out
  obtain ⟨p0,p1,p2,p3⟩:=zpy (.bool (ngO (fitO (sgn neg2 q)))) (.slice A5 n5 c5) (.bool (ngO (fitO (sgn false r)))) (.slice A6 n6 c6) q0 q1 r0 r1 (by omega)
  rw [f1] at hs8
  rw [f3] at hs7
  refine bodyPost_ret (v:=.tuple #[.agg #[.bool (ngO (fitO (sgn neg2 q))),.slice A5 n5 c5],.agg #[.bool (ngO (fitO (sgn false r))),.slice A6 n6 c6],.bool true]) ?_ rfl ⟨A5,n5,c5,A6,n6,c6,by rw [f2,f4];rfl,?_,?_,?_⟩
  ·simp [results,Tryz.f143,go_sem,p0,p1,p2,p3]
  ·exact hs8.stored4 q0 q1 r0 r1 (by omega) _ _ _ _
  ·exact hs7.stored4 q0 q1 r0 r1 (by omega) _ _ _ _
  ·exact ((((s6.below.setCell (by simp;omega) _).setCell (by simp;omega) _).setCell (by simp;omega) _).setCell (by simp;omega) _).drew
 ·have hG:Hid (∀{W:World} {B:Nat} {A:Option Addr} {n c:Nat},Sl W B A n c (digs r)→n=0):=Lib.hid (fun hs=>hguard.out hs rfl)
  clear hguard
  rw [show (!(true == neg2))=!neg2 by cases neg2<;>rfl] at hF ⊢
  go_enter Tryz.func143,Tryz.ntmps143
  go_wp2_with (first
   | (go_at_call 75;(with_reducible refine (R1.out _ s0.below).mono ?_);rintro e w1 ⟨rfl,hb⟩;have s1:=s0.via hb;obtain ⟨a0,a1,b0,b1,q0,q1,qf,r0,r1,rf,rz⟩:=s1.facts)
   | (go_at_call 75;(with_reducible refine (R2.out _ s1.below).mono ?_);rintro e w2 ⟨rfl,hb⟩;have s2:=s1.via hb;clear a0 a1 b0 b1 q0 q1 qf r0 r1 rf rz;obtain ⟨a0,a1,b0,b1,q0,q1,qf,r0,r1,rf,rz⟩:=s2.facts)
   | (go_at_call 106;(with_reducible refine (OV.out _ s2.below).mono ?_);rintro e w3 ⟨A3,n3,c3,A4,n4,c4,rfl,hsq,hsr,hb3⟩;have s3:=s2.via hb3;clear a0 a1 b0 b1 q0 q1 qf r0 r1 rf rz;obtain ⟨a0,a1,b0,b1,q0,q1,qf,r0,r1,rf,rz⟩:=s3.facts;obtain rfl:=hG.out hsr)
   | (go_at_call 90;(with_reducible refine (zaU A3 n3 c3 w3.heap.size _ _ _ w3 hsq (Nat.le_refl _) (zp _)).mono ?_);rintro e w4 ⟨A5,n5,c5,rfl,hs5,hb4⟩;have s4:=s3.via hb4;clear a0 a1 b0 b1 q0 q1 qf r0 r1 rf rz;obtain ⟨a0,a1,b0,b1,q0,q1,qf,r0,r1,rf,rz⟩:=s4.facts)
   | (go_at_call 90;(with_reducible refine (zaU A4 _ c4 w3.heap.size _ _ _ _ (hsr.below (hb4.alloc (Nat.le_trans hb4.size (Nat.le_refl _)) _)) (by have:=hb4.size;simp;omega) (zp _)).mono ?_);rintro e w5 ⟨A6,n6,c6,rfl,hs6,hb5⟩;have s5:=(s4.alloc _).via hb5;obtain ⟨e0,e1⟩:=S1.facts (w:=w4) (A:=A5) (n:=n5) (c:=c5) (hb5.mono (by simp));have hz5:=hb5.size;(try simp at hz5);clear a0 a1 b0 b1 q0 q1 qf r0 r1 rf rz;obtain ⟨a0,a1,b0,b1,q0,q1,qf,r0,r1,rf,rz⟩:=s5.facts)
   | fail "no arm")
  have hy5:w4.heap.size<w5.heap.size:=by omega
  have s6:=s5.alloc (.cells #[.bool (ngO (fitO (sgn false r))),.slice A6 n6 c6] 30)
  have k0:=(World.cell?_alloc_lt w5 (.cells #[.bool (ngO (fitO (sgn false r))),.slice A6 n6 c6] 30) ⟨w4.heap.size,0,none⟩ hy5).trans e0
  have k1:=(World.cell?_alloc_lt w5 (.cells #[.bool (ngO (fitO (sgn false r))),.slice A6 n6 c6] 30) ⟨w4.heap.size,1,none⟩ hy5).trans e1
  obtain ⟨g0,g1⟩:=(S1.start (w:=w5) (neg:=ngO (fitO (sgn false r))) (A:=A6) (n:=n6) (c:=c6)).facts
  have hs7:=(hs6.below ((Below.refl _ _).alloc (Nat.le_refl _) (.cells #[.bool (ngO (fitO (sgn false r))),.slice A6 n6 c6] 30))).more (B':=(w5.alloc (.cells #[.bool (ngO (fitO (sgn false r))),.slice A6 n6 c6] 30)).heap.size) (by simp)
  have hs8:=(hs5.below (((Below.refl _ _).alloc (Nat.le_refl _) _).trans ((hb5.mono (by simp)).alloc (by omega) (.cells #[.bool (ngO (fitO (sgn false r))),.slice A6 n6 c6] 30)))).more (B':=(w5.alloc (.cells #[.bool (ngO (fitO (sgn false r))),.slice A6 n6 c6] 30)).heap.size) (by simp;omega)
  obtain ⟨W6,hW6⟩:∃W6,w5.alloc (.cells #[.bool (ngO (fitO (sgn false r))),.slice A6 n6 c6] 30)=W6:=⟨_,rfl⟩
  rw [hW6] at s6 k0 k1 g0 g1 hs7 hs8 ⊢
  have y4:=s4.size
  have y5:=s5.size
  have y1:w5.heap.size≠w.heap.size+1+1:=by omega
  have y2:w5.heap.size≠w.heap.size+1+1+1:=by omega
  have y3:w4.heap.size≠w.heap.size+1+1:=by omega
  have y6:w4.heap.size≠w.heap.size+1+1+1:=by omega
  clear a0 a1 b0 b1 q0 q1 qf r0 r1 rf rz e0 e1 hs5 hs6 hW6
  obtain ⟨a0,a1,b0,b1,q0,q1,qf,r0,r1,rf,rz⟩:=s6.facts
  go_region
  go_wp2_with fail
  obtain ⟨f1,f2,f3,f4⟩:=hF.out
  obtain ⟨p0,p1,p2,p3⟩:=zpy (.bool (ngO (fitO (sgn (!neg2) q)))) (.slice A5 n5 c5) (.bool (ngO (fitO (sgn false r)))) (.slice A6 n6 c6) q0 q1 r0 r1 (by omega)
  rw [f1] at hs8
  rw [f3] at hs7
  refine bodyPost_ret (v:=.tuple #[.agg #[.bool (ngO (fitO (sgn (!neg2) q))),.slice A5 n5 c5],.agg #[.bool (ngO (fitO (sgn false r))),.slice A6 n6 c6],.bool true]) ?_ rfl ⟨A5,n5,c5,A6,n6,c6,by rw [f2,f4];rfl,?_,?_,?_⟩
  ·simp [results,Tryz.f143,go_sem,p0,p1,p2,p3]
  ·exact hs8.stored4 q0 q1 r0 r1 (by omega) _ _ _ _
  ·exact hs7.stored4 q0 q1 r0 r1 (by omega) _ _ _ _
  ·exact ((((s6.below.setCell (by simp;omega) _).setCell (by simp;omega) _).setCell (by simp;omega) _).setCell (by simp;omega) _).drew
theorem zt8 (neg2:Bool) {A A2:Option Addr} {n n2 c c2 B:Nat} {l m:List Nat} {w:World} (h:Sl w B A n c l) (h2:Sl w B A2 n2 c2 m) (hB:B≤w.heap.size) (h1:zq true l=true) (k1:zq neg2 m=true) (k0:0<n2) (hz:0<nval l%nval m) :
  Calls Tryz.prog 143 #[.agg #[.bool true,.slice A n c],.agg #[.bool neg2,.slice A2 n2 c2]] w (zqU (some (sgn (!neg2) (nval l / nval m+1),sgn false (nval m - nval l%nval m))) w):=by
 have R1:=Lib.hid (zZ true (h.more hB) true h1)
 have R2:=Lib.hid (zZ neg2 (h2.more hB) true k1)
 have hl:=zJ h1 h.dig
 have hm:=zJ k1 h2.dig
 have hn:=hl.2.1
 have hn2:=hm.2.1
 rw [h.len] at hn
 rw [h2.len] at hn2
 have hV0:0<nval m:=by
  rcases Nat.eq_zero_or_pos (nval m) with h0 | h0
  ·have:=qL hm.1 h0;rw [← h2.len,this] at k0;simp at k0
  ·exact h0
 have hlb:nval l<big:=(qK hl.1).1 hl.2.1
 have hmb:nval m<big:=(qK hm.1).1 hm.2.1
 have hqb:nval l / nval m+1<big:=Nat.lt_of_le_of_lt (zv0 hV0 hz) hlb
 have hrl:=Nat.mod_lt (nval l) hV0
 have hrb:nval m - nval l%nval m<big:=by omega
 have OV:=Lib.hid (fun (W:World) (hW:Below w.heap.size w W)=>show Calls Tryz.prog 106 #[.slice A n c,.slice A2 n2 c2] W (RetQR (nval l / nval m) (nval l%nval m) W) from zpZ ((h.more hB).below hW) ((h2.more hB).below hW) hW.size hl.1 hm.1 hn hn2 (zux hm.1 h2.len k0))
 have s0:=Sd.start (w:=w) (neg:=true) (A:=A) (n:=n) (c:=c) (neg2:=neg2) (A2:=A2) (n2:=n2) (c2:=c2)
 have hne:((n2:Int) == 0)=false:=by simp;omega
 have hne2:(n2:Int)≠0:=by omega
 have H2:=Lib.hid (h2.more hB)
 have hc2:Hid (Canon m):=Lib.hid hm.1
 obtain ⟨q,hq⟩:∃q,nval l / nval m=q:=⟨_,rfl⟩
 obtain ⟨r,hr⟩:∃r,nval l%nval m=r:=⟨_,rfl⟩
 obtain ⟨V,hV⟩:∃V,nval m=V:=⟨_,rfl⟩
 rw [hq] at hqb
 rw [hr] at hrb hrl hz
 rw [hq,hr] at OV ⊢
 rw [hV] at hrb hrl ⊢
 have hF:Hid (vO (fitO (sgn (!neg2) (q+1)))=sgn (!neg2) (q+1)∧ngO (fitO (sgn (!neg2) (q+1)))=decide (sgn (!neg2) (q+1)<0)∧vO (fitO (sgn false (V - r)))=sgn false (V - r)∧ngO (fitO (sgn false (V - r)))=decide (sgn false (V - r)<0)):=by
  have e1:=zsI (x:=sgn (!neg2) (q+1)) (by (have:(sgn (!neg2) (q+1)).natAbs=q+1:=by (unfold sgn;split<;>omega));rw [this];exact hqb)
  have e2:=zsI (x:=sgn false (V - r)) (by (have:(sgn false (V - r)).natAbs=V - r:=by (unfold sgn;simp));rw [this];exact hrb)
  exact ⟨e1.1,e1.2,e2.1,e2.2⟩
 have hq64:Hid (∀{W:World} {B:Nat} {A:Option Addr} {n c:Nat},Sl W B A n c (digs q)→n≤1000):=Lib.hid (fun hs=>by
  have h1:=(zaa q).2 (show q<4294967296 ^ 64 from Nat.lt_trans (by omega) hqb)
  rw [hs.len] at h1;omega)
 have hr64:Hid (∀{W:World} {B:Nat} {A:Option Addr} {n c:Nat},Sl W B A n c (digs r)→n≤n2∧0<n):=Lib.hid (fun hs=>by
  have h1:=zav (z1 r) hc2.out.1 (by rw [zp,hV];omega)
  rw [hs.len,h2.len] at h1
  refine ⟨h1,?_⟩
  rw [← hs.len]
  rcases Nat.eq_zero_or_pos (digs r).length with h0 | h0
  ·have:=zcf.1 (List.eq_nil_of_length_eq_zero h0);omega
  ·exact h0)
 clear h h1 h2 k1 hl hm hlb hmb hqb hrb hq hr hn k0 hV0
 go_enter Tryz.func143,Tryz.ntmps143
 go_upto_region 5 with (first
  | (go_at_call 75;(with_reducible refine (R1.out _ s0.below).mono ?_);rintro e w1 ⟨rfl,hb⟩;have s1:=s0.via hb;obtain ⟨a0,a1,b0,b1,q0,q1,qf,r0,r1,rf,rz⟩:=s1.facts)
  | (go_at_call 75;(with_reducible refine (R2.out _ s1.below).mono ?_);rintro e w2 ⟨rfl,hb⟩;have s2:=s1.via hb;clear a0 a1 b0 b1 q0 q1 qf r0 r1 rf rz;obtain ⟨a0,a1,b0,b1,q0,q1,qf,r0,r1,rf,rz⟩:=s2.facts)
  | (go_at_call 106;(with_reducible refine (OV.out _ s2.below).mono ?_);rintro e w3 ⟨A3,n3,c3,A4,n4,c4,rfl,hsq,hsr,hb3⟩;have s3:=s2.via hb3;clear a0 a1 b0 b1 q0 q1 qf r0 r1 rf rz;obtain ⟨a0,a1,b0,b1,q0,q1,qf,r0,r1,rf,rz⟩:=s3.facts;have hn4:(0:Int)<n4:=by (have:=(hr64.out hsr).2;omega))
  | fail "no arm")
 have PL:=Lib.hid (fun (W:World) (g:Nat) (hW:Below w3.heap.size w3 W) (hD:DBk W g 123 [1])=>show Calls Tryz.prog 140 #[.slice A3 n3 c3,.slice (some ⟨g,0,none⟩) 1 1] W (RetD (q+1) W) from by
  have:=zgR A3 (some ⟨g,0,none⟩) n3 c3 1 1 W.heap.size (digs q) [1] W ((hsq.below hW).more hW.size) (hD.sl (B:=W.heap.size) (by intro d hd;simp at hd;omega) hD.lt (by simp)) (Nat.le_refl _) (hq64.out hsq) (by simp)
  rw [zp,show nval [1]=1 from rfl] at this
  exact this)
 have MI:=Lib.hid (fun (W:World) (hW:Below w3.heap.size w3 W)=>show Calls Tryz.prog 134 #[.slice A2 n2 c2,.slice A4 n4 c4] W (RetD (V - r) W) from by
  have:=zb2 A2 A4 n2 c2 n4 c4 W.heap.size m (digs r) W ((H2.out.below (s3.below.trans (hW.mono s3.below.size))).more (Nat.le_trans s3.below.size hW.size)) ((hsr.below hW).more hW.size) (Nat.le_refl _) (by omega) (hr64.out hsr).1 (by rw [zp,hV];omega)
  rw [zp,hV] at this
  exact this)
 have u1:Below w3.heap.size w3 (w3.alloc (.cells #[.int .u32 1] 123)):=(Below.refl _ _).alloc (Nat.le_refl _) _
 have d1:DBk (w3.alloc (.cells #[.int .u32 1] 123)) w3.heap.size 123 [1]:=zy w3 _ _ rfl
 have hd4:decide (0<n4)=true:=by simp;omega
 simp only [hd4]
 go_upto_region 7 with (first
  | (go_at_call 140;go_loud ((with_reducible refine (PL.out _ _ u1 d1).mono ?_);rintro e w4 ⟨A5,n5,c5,rfl,hp,hb4⟩;have u4:=u1.trans (hb4.mono u1.size);have s4:=s3.via u4;clear a0 a1 b0 b1 q0 q1 qf r0 r1 rf rz;obtain ⟨a0,a1,b0,b1,q0,q1,qf,r0,r1,rf,rz⟩:=s4.facts))
  | (go_at_call 134;go_loud ((with_reducible refine (MI.out _ u4).mono ?_);rintro e wc ⟨A6,n6,c6,rfl,hmi,hb6⟩;have uc:=u4.trans (hb6.mono u4.size);replace hp:=(hp.below hb6).more hb6.size))
  | fail "no arm")
 clear hsq hsr
 have hsq:=hp
 have hsr:=hmi
 have sc:=s3.via uc
 clear a0 a1 b0 b1 q0 q1 qf r0 r1 rf rz
 obtain ⟨a0,a1,b0,b1,q0,q1,qf,r0,r1,rf,rz⟩:=sc.facts
 go_wp2_with (first
  | (go_at_call 90;(with_reducible refine (zaU A5 n5 c5 wc.heap.size _ _ _ wc hsq (Nat.le_refl _) (zp _)).mono ?_);rintro e w4 ⟨A7,n7,c7,rfl,hs5,hb4⟩;have s4:=sc.via hb4;clear a0 a1 b0 b1 q0 q1 qf r0 r1 rf rz;obtain ⟨a0,a1,b0,b1,q0,q1,qf,r0,r1,rf,rz⟩:=s4.facts)
  | (go_at_call 90;(with_reducible refine (zaU A6 n6 c6 wc.heap.size _ _ _ _ (hsr.below (hb4.alloc (Nat.le_trans hb4.size (Nat.le_refl _)) _)) (by have:=hb4.size;simp;omega) (zp _)).mono ?_);rintro e w5 ⟨A8,n8,c8,rfl,hs6,hb5⟩;have s5:=(s4.alloc _).via hb5;obtain ⟨e0,e1⟩:=S1.facts (w:=w4) (A:=A7) (n:=n7) (c:=c7) (hb5.mono (by simp));have hz5:=hb5.size;(try simp at hz5);clear a0 a1 b0 b1 q0 q1 qf r0 r1 rf rz;obtain ⟨a0,a1,b0,b1,q0,q1,qf,r0,r1,rf,rz⟩:=s5.facts)
  | fail "no arm")
 have hy5:w4.heap.size<w5.heap.size:=by omega
 have s6:=s5.alloc (.cells #[.bool (ngO (fitO (sgn false (V - r)))),.slice A8 n8 c8] 30)
 have k0:=(World.cell?_alloc_lt w5 (.cells #[.bool (ngO (fitO (sgn false (V - r)))),.slice A8 n8 c8] 30) ⟨w4.heap.size,0,none⟩ hy5).trans e0
 have k1:=(World.cell?_alloc_lt w5 (.cells #[.bool (ngO (fitO (sgn false (V - r)))),.slice A8 n8 c8] 30) ⟨w4.heap.size,1,none⟩ hy5).trans e1
 obtain ⟨g0,g1⟩:=(S1.start (w:=w5) (neg:=ngO (fitO (sgn false (V - r)))) (A:=A8) (n:=n8) (c:=c8)).facts
 have hs7:=(hs6.below ((Below.refl _ _).alloc (Nat.le_refl _) (.cells #[.bool (ngO (fitO (sgn false (V - r)))),.slice A8 n8 c8] 30))).more (B':=(w5.alloc (.cells #[.bool (ngO (fitO (sgn false (V - r)))),.slice A8 n8 c8] 30)).heap.size) (by simp)
 have hs8:=(hs5.below (((Below.refl _ _).alloc (Nat.le_refl _) _).trans ((hb5.mono (by simp)).alloc (by omega) (.cells #[.bool (ngO (fitO (sgn false (V - r)))),.slice A8 n8 c8] 30)))).more (B':=(w5.alloc (.cells #[.bool (ngO (fitO (sgn false (V - r)))),.slice A8 n8 c8] 30)).heap.size) (by simp;omega)
 obtain ⟨W6,hW6⟩:∃W6,w5.alloc (.cells #[.bool (ngO (fitO (sgn false (V - r)))),.slice A8 n8 c8] 30)=W6:=⟨_,rfl⟩
 rw [hW6] at s6 k0 k1 g0 g1 hs7 hs8 ⊢
 have y4:=s4.size
 have y5:=s5.size
 have y1:w5.heap.size≠w.heap.size+1+1:=by omega
 have y2:w5.heap.size≠w.heap.size+1+1+1:=by omega
 have y3:w4.heap.size≠w.heap.size+1+1:=by omega
 have y6:w4.heap.size≠w.heap.size+1+1+1:=by omega
 clear a0 a1 b0 b1 q0 q1 qf r0 r1 rf rz e0 e1 hs5 hs6 hW6
 obtain ⟨a0,a1,b0,b1,q0,q1,qf,r0,r1,rf,rz⟩:=s6.facts
 go_region
 go_wp2_with fail
 obtain ⟨f1,f2,f3,f4⟩:=hF.out
 obtain ⟨p0,p1,p2,p3⟩:=zpy (.bool (ngO (fitO (sgn (!neg2) (q+1))))) (.slice A7 n7 c7) (.bool (ngO (fitO (sgn false (V - r))))) (.slice A8 n8 c8) q0 q1 r0 r1 (by omega)
 rw [f1] at hs8
 rw [f3] at hs7
 refine bodyPost_ret (v:=.tuple #[.agg #[.bool (ngO (fitO (sgn (!neg2) (q+1)))),.slice A7 n7 c7],.agg #[.bool (ngO (fitO (sgn false (V - r)))),.slice A8 n8 c8],.bool true]) ?_ rfl ⟨A7,n7,c7,A8,n8,c8,by rw [f2,f4];rfl,?_,?_,?_⟩
 ·simp [results,Tryz.f143,go_sem,p0,p1,p2,p3]
 ·exact hs8.stored4 q0 q1 r0 r1 (by omega) _ _ _ _
 ·exact hs7.stored4 q0 q1 r0 r1 (by omega) _ _ _ _
 ·exact ((((s6.below.setCell (by simp;omega) _).setCell (by simp;omega) _).setCell (by simp;omega) _).setCell (by simp;omega) _).drew
theorem zs5 (neg neg2:Bool) {A A2:Option Addr} {n n2 c c2 B:Nat} {l m:List Nat} {w:World} (h:Sl w B A n c l) (h2:Sl w B A2 n2 c2 m) (hB:B≤w.heap.size) :
  Calls Tryz.prog 143 #[.agg #[.bool neg,.slice A n c],.agg #[.bool neg2,.slice A2 n2 c2]] w (zqU (divS neg l neg2 m) w):=by
 cases h1:zq neg l with
 | false=>rw [show divS neg l neg2 m=none by unfold divS;rw [if_neg (by rw [h1];simp)]];exact zs6 neg neg2 h hB h1
 | true =>
  cases k1:zq neg2 m with
  | false=>rw [show divS neg l neg2 m=none by unfold divS;rw [if_neg (by rw [k1];simp)]];exact zs7 neg neg2 h h2 hB h1 k1
  | true =>
   by_cases k0:m=[]
   ·rw [show divS neg l neg2 m=none by unfold divS;rw [if_neg (by simp [k0])]];exact zs8 neg neg2 h h2 hB h1 k1 k0
   ·rw [show divS neg l neg2 m=some (sgn neg (nval l) / sgn neg2 (nval m),sgn neg (nval l)%sgn neg2 (nval m)) by unfold divS;rw [if_pos ⟨h1,k1,k0⟩]]
    have hn2:0<n2:=by
     rw [← h2.len];exact List.length_pos_iff.2 k0
    have hm:=zJ k1 h2.dig
    have hV0:0<nval m:=by
     rcases Nat.eq_zero_or_pos (nval m) with h0 | h0
     ·exact absurd (qL hm.1 h0) k0
     ·exact h0
    by_cases hz:neg=false∨nval l%nval m=0
    ·have:=zr0 neg neg2 h h2 hB h1 k1 hn2 hz
     rwa [ztT hV0 neg neg2 hz] at this
    ·have hz1:neg=true:=by cases neg<;>simp_all
     subst hz1
     have hz2:0<nval l%nval m:=by
      rcases Nat.eq_zero_or_pos (nval l%nval m) with h0 | h0
      ·exact absurd (Or.inr h0) hz
      ·exact h0
     have:=zt8 neg2 h h2 hB h1 k1 hn2 hz2
     rwa [zrV hV0 neg2 hz2] at this
theorem zta (neg neg2:Bool) {A A2:Option Addr} {n n2 c c2 B:Nat} {l:List Nat} {w:World} (h:Sl w B A n c l) (hB:B≤w.heap.size) (h1:zq neg l=false) :
  Calls Tryz.prog 78 #[.agg #[.bool neg,.slice A n c],.agg #[.bool neg2,.slice A2 n2 c2]] w (RetN none w):=by
 have R1:=Lib.hid (zZ neg (h.more hB) false h1)
 have s0:=Sm.start (w:=w) (neg:=neg) (A:=A) (n:=n) (c:=c) (neg2:=neg2) (A2:=A2) (n2:=n2) (c2:=c2)
 clear h h1
 go_enter Tryz.func78,Tryz.ntmps78
 go_wp2_with (go_at_call 75;refine (R1.out _ s0.below).mono ?_;rintro e w1 ⟨rfl,hb⟩;have s1:=s0.via hb;obtain ⟨a0,a1,b0,b1,r0,r1,rf,rz⟩:=s1.facts)
 obtain ⟨q0,q1⟩:=qd (.bool false) (.slice none 0 0) r0 r1
 refine bodyPost_ret (v:=.tuple #[.agg #[.bool false,.slice none 0 0],.bool false]) ?_ rfl ⟨_,_,_,rfl,by rw [show digs (vO none).natAbs=[] from zw];exact Sl.none_,?_⟩
 ·simp [results,Tryz.f78,go_sem,q0,q1]
 ·exact (s1.below.setCell (by simp;omega) _).setCell (by simp;omega) _
theorem ztb (neg neg2:Bool) {A A2:Option Addr} {n n2 c c2 B:Nat} {l m:List Nat} {w:World} (h:Sl w B A n c l) (h2:Sl w B A2 n2 c2 m) (hB:B≤w.heap.size) (h1:zq neg l=true) (k1:zq neg2 m=false) :
  Calls Tryz.prog 78 #[.agg #[.bool neg,.slice A n c],.agg #[.bool neg2,.slice A2 n2 c2]] w (RetN none w):=by
 have R1:=Lib.hid (zZ neg (h.more hB) true h1)
 have R2:=Lib.hid (zZ neg2 (h2.more hB) false k1)
 have s0:=Sm.start (w:=w) (neg:=neg) (A:=A) (n:=n) (c:=c) (neg2:=neg2) (A2:=A2) (n2:=n2) (c2:=c2)
 clear h h1 h2 k1
 go_enter Tryz.func78,Tryz.ntmps78
 go_wp2_with (first
  | (go_at_call 75;(with_reducible refine (R1.out _ s0.below).mono ?_);rintro e w1 ⟨rfl,hb⟩;have s1:=s0.via hb;obtain ⟨a0,a1,b0,b1,r0,r1,rf,rz⟩:=s1.facts)
  | (go_at_call 75;(with_reducible refine (R2.out _ s1.below).mono ?_);rintro e w2 ⟨rfl,hb⟩;have s2:=s1.via hb;clear a0 a1 b0 b1 r0 r1 rf rz;obtain ⟨a0,a1,b0,b1,r0,r1,rf,rz⟩:=s2.facts)
  | fail "no arm")
 obtain ⟨q0,q1⟩:=qd (.bool false) (.slice none 0 0) r0 r1
 refine bodyPost_ret (v:=.tuple #[.agg #[.bool false,.slice none 0 0],.bool false]) ?_ rfl ⟨_,_,_,rfl,by rw [show digs (vO none).natAbs=[] from zw];exact Sl.none_,?_⟩
 ·simp [results,Tryz.f78,go_sem,q0,q1]
 ·exact (s2.below.setCell (by simp;omega) _).setCell (by simp;omega) _
theorem ztc (neg neg2:Bool) {A A2:Option Addr} {n n2 c c2 B:Nat} {l m:List Nat} {w:World} (h:Sl w B A n c l) (h2:Sl w B A2 n2 c2 m) (hB:B≤w.heap.size) (h1:zq neg l=true) (k1:zq neg2 m=true) :
  Calls Tryz.prog 78 #[.agg #[.bool neg,.slice A n c],.agg #[.bool neg2,.slice A2 n2 c2]] w (RetN (fitO ((Nat.gcd (nval l) (nval m):Nat):Int)) w):=by
 have R1:=Lib.hid (zZ neg (h.more hB) true h1)
 have R2:=Lib.hid (zZ neg2 (h2.more hB) true k1)
 have hl:=zJ h1 h.dig
 have hm:=zJ k1 h2.dig
 have hlb:nval l<big:=(qK hl.1).1 hl.2.1
 have hmb:nval m<big:=(qK hm.1).1 hm.2.1
 have h':=Lib.hid (h.more hB)
 have h2':=Lib.hid (h2.more hB)
 have s0:=Sm.start (w:=w) (neg:=neg) (A:=A) (n:=n) (c:=c) (neg2:=neg2) (A2:=A2) (n2:=n2) (c2:=c2)
 obtain ⟨G,hG⟩:∃G,Nat.gcd (nval l) (nval m)=G:=⟨_,rfl⟩
 rw [hG]
 have I0:Hid (∃p q,l=digs p∧m=digs q∧Nat.gcd p q=G∧p<big∧q<big):=Lib.hid ⟨nval l,nval m,zbz hl.1,zbz hm.1,hG,hlb,hmb⟩
 clear h h1 h2 k1 hl hm hlb hmb hG
 go_enter Tryz.func78,Tryz.ntmps78
 go_wp2_with (first
  | (go_at_call 75;(with_reducible refine (R1.out _ s0.below).mono ?_);rintro e w1 ⟨rfl,hb⟩;have s1:=s0.via hb;obtain ⟨a0,a1,b0,b1,r0,r1,rf,rz⟩:=s1.facts)
  | (go_at_call 75;(with_reducible refine (R2.out _ s1.below).mono ?_);rintro e w2 ⟨rfl,hb⟩;have s2:=s1.via hb;clear a0 a1 b0 b1 r0 r1 rf rz;obtain ⟨a0,a1,b0,b1,r0,r1,rf,rz⟩:=s2.facts)
  | fail "no arm")
 have s3:=s2
 clear a0 a1 b0 b1 r0 r1 rf rz R1 R2
 go_loopw [6,7] (fun x y wr=>∃A3 n3 c3 p A4 n4 c4 q,x=.slice A3 n3 c3∧y=.slice A4 n4 c4∧Sm w neg A n c neg2 A2 n2 c2 wr∧Hid (Sl wr wr.heap.size A3 n3 c3 (digs p)∧Sl wr wr.heap.size A4 n4 c4 (digs q)∧Nat.gcd p q=G∧p<big∧q<big)) (fun _ y wr=>slv wr y)
 case atStart =>
  obtain ⟨p,q,rfl,rfl,i1,i2,i3⟩:=I0.out
  exact ⟨A,n,c,p,A2,n2,c2,q,rfl,rfl,s3,Lib.hid ⟨(h'.out.below s3.below).more s3.below.size,(h2'.out.below s3.below).more s3.below.size,i1,i2,i3⟩⟩
 case round =>
  obtain ⟨A3,n3,c3,p,A4,n4,c4,q,rfl,rfl,sr,hI⟩:=hrel
  obtain ⟨a0,a1,b0,b1,r0,r1,rf,rz⟩:=sr.facts
  by_cases h6:(0:Int)<n4
  ·have hq0:0<q:=by have:=(zab hI.out.2.1).2;omega
   have OV:Hid (Calls Tryz.prog 106 #[.slice A3 n3 c3,.slice A4 n4 c4] wr (RetQR (p / q) (p%q) wr)):=by
    obtain ⟨i1,i2,i3,i4,i5⟩:=hI.out
    have:=zpZ i1 i2 (Nat.le_refl _) (z1 p) (z1 q) (zhy i1 i4) (zhy i2 i5) (by rw [zp];omega)
    rw [zp,zp] at this
    exact Lib.hid this
   go_wp2_with (first
    | (go_at_call 106;(with_reducible refine (OV.out).mono ?_);rintro e w3 ⟨A5,n5,c5,A6,n6,c6,rfl,hsq,hsr,hb3⟩;have sr2:=sr.via hb3)
    | fail "no arm")
   obtain ⟨i1,i2,i3,i4,i5⟩:=hI.out
   refine ⟨⟨A4,n4,c4,q,A6,n6,c6,p%q,rfl,rfl,sr2,Lib.hid ⟨(i2.below hb3).more hb3.size,hsr,by rw [zhA];exact i3,i5,Nat.lt_trans (Nat.mod_lt _ hq0) i5⟩⟩,?_⟩
   rw [zdA hsr,zdA i2,zp,zp]
   exact Nat.mod_lt _ hq0
  ·obtain rfl:n4=0:=by omega
   have hq0:q=0:=(zab hI.out.2.1).1 rfl
   obtain rfl:p=G:=by have:=hI.out.2.2.1;rwa [hq0,Nat.gcd_zero_right] at this
   have NU:=Lib.hid (zaU A3 n3 c3 wr.heap.size _ false _ wr hI.out.1 (Nat.le_refl _) (zp _))
   clear hq0 hI
   go_wp2_with (first
    | (go_at_call 90;(with_reducible refine (NU.out).mono ?_);rintro e w2 ⟨A6,n6,c6,rfl,hs6,hb6⟩;have s6:=sr.via hb6;clear a0 a1 b0 b1 r0 r1 rf rz;obtain ⟨a0,a1,b0,b1,r0,r1,rf,rz⟩:=s6.facts)
    | fail "no arm")
   obtain ⟨q0,q1⟩:=qd (.bool (ngO (fitO (sgn false p)))) (.slice A6 n6 c6) r0 r1
   refine bodyPost_ret (v:=.tuple #[.agg #[.bool (ngO (fitO (sgn false p))),.slice A6 n6 c6],.bool (okO (fitO (sgn false p)))]) ?_ rfl ⟨_,_,_,rfl,?_,?_⟩
   ·simp [results,Tryz.f78,go_sem,q0,q1]
   ·exact hs6.stored r0 r1 _ _
   ·exact (s6.below.setCell (by simp;omega) _).setCell (by simp;omega) _
theorem zs9 (neg neg2:Bool) {A A2:Option Addr} {n n2 c c2 B:Nat} {l m:List Nat} {w:World} (h:Sl w B A n c l) (h2:Sl w B A2 n2 c2 m) (hB:B≤w.heap.size) :
  Calls Tryz.prog 78 #[.agg #[.bool neg,.slice A n c],.agg #[.bool neg2,.slice A2 n2 c2]] w (RetN (gcdS neg l neg2 m) w):=by
 cases h1:zq neg l with
 | false=>rw [show gcdS neg l neg2 m=none by unfold gcdS;rw [if_neg (by rw [h1];simp)]];exact zta neg neg2 h hB h1
 | true =>
  cases k1:zq neg2 m with
  | false=>rw [show gcdS neg l neg2 m=none by unfold gcdS;rw [if_neg (by rw [k1];simp)]];exact ztb neg neg2 h h2 hB h1 k1
  | true =>
   rw [show gcdS neg l neg2 m=fitO ((Nat.gcd (nval l) (nval m):Nat):Int) by unfold gcdS;rw [if_pos ⟨h1,k1⟩]]
   exact ztc neg neg2 h h2 hB h1 k1
end Go.Proofs.YtjcegdldgjphiaaGreatDoor
namespace Go.Proofs.YtjcegdldgjphiaaGreatDoor
theorem zh9 {x:Int} {d:Nat} (hd:d≠0):(Rat.divInt x (d:Int)).num=x / ((Nat.gcd x.natAbs d:Nat):Int)∧(Rat.divInt x (d:Int)).den=d / Nat.gcd x.natAbs d:=by
 rw [Rat.divInt_ofNat,← Rat.normalize_eq_mkRat hd,Rat.normalize_eq]
 exact ⟨rfl,rfl⟩
theorem zsi {x:Int} {d:Nat} (hd:d≠0):(Rat.divInt x (-(d:Int))).num=(-x) / ((Nat.gcd x.natAbs d:Nat):Int)∧(Rat.divInt x (-(d:Int))).den=d / Nat.gcd x.natAbs d:=by
 rw [Rat.divInt_neg']
 have:=zh9 (x:=-x) hd
 rwa [Int.natAbs_neg] at this
def ofR (x y:Int):Option Rat:=if y=0 then none else some (Rat.divInt x y)
def nO (r:Option Rat):Int:=(r.map Rat.num).getD 0
def dO (r:Option Rat):Nat:=(r.map Rat.den).getD 0
theorem zvN {x:Int} {g:Bool} {d:Nat} (hd:d≠0):∃q,ofR x (sgn g d)=some q∧q.num=(if g then -x else x) / ((Nat.gcd x.natAbs d:Nat):Int)∧q.den=d / Nat.gcd x.natAbs d:=by
 have h0:sgn g d≠0:=by cases g<;>simp [sgn]<;>omega
 refine ⟨Rat.divInt x (sgn g d),by unfold ofR;rw [if_neg h0],?_⟩
 cases g
 ·exact zh9 hd
 ·exact zsi hd
theorem zwq {x:Int} {d:Nat} (hd:d≠0):Nat.gcd x.natAbs d≠0:=fun h=>hd (Nat.eq_zero_of_gcd_eq_zero_right h)
theorem zje {x:Int} {d:Nat}:((Nat.gcd x.natAbs d:Nat):Int) ∣ x:=Int.ofNat_dvd_left.2 (Nat.gcd_dvd_left _ _)
theorem zrh {x:Int} {d:Nat}:(-x) / ((Nat.gcd x.natAbs d:Nat):Int)=-(x / ((Nat.gcd x.natAbs d:Nat):Int)):=Int.neg_ediv_of_dvd zje
def zor (g1:Bool) (l:List Nat) (g2:Bool) (m:List Nat):Bool:=zq g1 l && (zq g2 m && (decide (0<sgn g2 (nval m)) && decide (Nat.gcd (nval l) (nval m)=1)))
theorem zn0 (p q:Rat):ofR (p.num*q.den+q.num*p.den) (p.den*q.den)=some (p+q):=by
 have h0:((p.den:Int)*q.den)≠0:=Int.mul_ne_zero (by have:=p.den_nz;omega) (by have:=q.den_nz;omega)
 unfold ofR
 rw [if_neg h0,← Rat.divInt_add_divInt _ _ (by have:=p.den_nz;omega) (by have:=q.den_nz;omega),Rat.num_divInt_den,Rat.num_divInt_den]
theorem zoi (p q:Rat):ofR (p.num*q.num) (p.den*q.den)=some (p*q):=by
 have h0:((p.den:Int)*q.den)≠0:=Int.mul_ne_zero (by have:=p.den_nz;omega) (by have:=q.den_nz;omega)
 unfold ofR
 rw [if_neg h0,← Rat.divInt_mul_divInt,Rat.num_divInt_den,Rat.num_divInt_den]
end Go.Proofs.YtjcegdldgjphiaaGreatDoor
namespace Go.Proofs.YtjcegdldgjphiaaGreatDoor
open Go.RowKit Go.Shelf
theorem zvX (x:Int):sgn (!decide (x<0)) x.natAbs=-x:=by
 by_cases h:x<0
 ·simp [sgn,h];omega
 ·simp [sgn,h];omega
theorem zhz {x:Int} (h:x.natAbs<big):fitO x=some x:=if_pos h
theorem zjA {x y:Int} (hx:x.natAbs<big) (hy:y.natAbs<big):Nat.gcd x.natAbs y.natAbs<big:=by
 rcases Nat.eq_zero_or_pos x.natAbs with h | h
 ·rw [h,Nat.gcd_zero_left];exact hy
 ·exact Nat.lt_of_le_of_lt (Nat.gcd_le_left _ h) hx
section
variable {x y:Int} {A A2:Option Addr} {n n2 c c2:Nat} {W:World}
end
end Go.Proofs.YtjcegdldgjphiaaGreatDoor
namespace Go.Proofs.YtjcegdldgjphiaaGreatDoor
open Go.RowKit Go.Shelf
def allocs (w:World):List (Array Value×TypeId)→World
 | []=>w
 | o::r=>allocs (w.alloc (.cells o.1 o.2)) r
theorem zco:∀(os:List (Array Value×TypeId)) (w:World),(allocs w os).heap.size=w.heap.size+os.length
 | [],w=>rfl
 | o::r,w=>by
  rw [allocs,zco r,World.size_alloc,List.length_cons];omega
theorem zau:∀(os:List (Array Value×TypeId)) (w:World),Below w.heap.size w (allocs w os)
 | [],w=>Below.refl _ _
 | o::r,w=>((Below.refl _ _).alloc (Nat.le_refl _) _).trans ((zau r _).mono (by simp))
theorem zbx:∀(os:List (Array Value×TypeId)) (w:World) (i:Nat) (cs:Array Value) (T:TypeId),os[i]?=some (cs,T)→(allocs w os).heap[w.heap.size+i]?=some (.cells cs T (0,0))
 | [],w,i,cs,T,h=>by simp at h
 | o::r,w,0,cs,T,h=>by
  simp at h
  subst h
  have h2:=(zau r (w.alloc (.cells cs T))).block w.heap.size (by simp)
  exact h2.trans (heap_alloc_new w _)
 | o::r,w,i+1,cs,T,h=>by
  have h2:=zbx r (w.alloc (.cells o.1 o.2)) i cs T (by simpa using h)
  rw [World.size_alloc] at h2
  rw [allocs,show w.heap.size+(i+1)=w.heap.size+1+i by omega]
  exact h2
def MX (w:World) (os:List (Array Value×TypeId)) (W:World):Prop:=Below (w.heap.size+os.length) (allocs w os) W
section
variable {w W W1:World} {os:List (Array Value×TypeId)}
theorem MX.start:MX w os (allocs w os):=Below.refl _ _
theorem MX.size (h:MX w os W):w.heap.size+os.length≤W.heap.size:=by have:=Below.size h;rwa [zco] at this
theorem MX.via (h:MX w os W) (hb:Below W.heap.size W W1):MX w os W1:=Below.trans h (hb.mono h.size)
theorem MX.drew (h:MX w os W):MX w os W.drew:=Below.drew h
theorem MX.drewN (h:MX w os W) (k:Nat):MX w os (W.drewN k):=zI h k
theorem MX.below (h:MX w os W):Below w.heap.size w W:=(zau os w).trans (Below.mono h (by omega))
theorem MX.cell (h:MX w os W) {i j:Nat} {cs:Array Value} {T:TypeId} {u:Value} (hi:os[i]?=some (cs,T)) (hu:cs[j]?=some u):W.cell? ⟨w.heap.size+i,j,none⟩=some u:=by
 have h':Below (w.heap.size+os.length) (allocs w os) W:=h
 have hl:i<os.length:=(List.getElem?_eq_some_iff.1 hi).1
 rw [h'.cell (p:=⟨w.heap.size+i,j,none⟩) (by simp;omega),qF (zbx os w i cs T hi)]
 exact hu
theorem MX.frozen (h:MX w os W) {i:Nat} {cs:Array Value} {T:TypeId} (hi:os[i]?=some (cs,T)) (j:Nat):W.frozen? ⟨w.heap.size+i,j,none⟩=false:=by
 have h':Below (w.heap.size+os.length) (allocs w os) W:=h
 have hl:i<os.length:=(List.getElem?_eq_some_iff.1 hi).1
 rw [h'.frozen (p:=⟨w.heap.size+i,j,none⟩) (by simp;omega),q7 (zbx os w i cs T hi)]
theorem MX.lt (h:MX w os W) {i:Nat} (hi:i<os.length):w.heap.size+i<W.heap.size:=by have:=h.size;omega
end
def put4 (W:World) (b:Nat) (v0 v1 v2 v3:Value):World:=(((W.setCell ⟨b,0,none⟩ v0).setCell ⟨b,1,none⟩ v1).setCell ⟨b,2,none⟩ v2).setCell ⟨b,3,none⟩ v3
theorem znZ {W:World} {b:Nat} {u0 u1 u2 u3:Value} (v0 v1 v2 v3:Value) (g0:W.cell? ⟨b,0,none⟩=some u0) (g1:W.cell? ⟨b,1,none⟩=some u1) (g2:W.cell? ⟨b,2,none⟩=some u2) (g3:W.cell? ⟨b,3,none⟩=some u3) :
  (put4 W b v0 v1 v2 v3).cell? ⟨b,0,none⟩=some v0∧(put4 W b v0 v1 v2 v3).cell? ⟨b,1,none⟩=some v1∧(put4 W b v0 v1 v2 v3).cell? ⟨b,2,none⟩=some v2∧(put4 W b v0 v1 v2 v3).cell? ⟨b,3,none⟩=some v3:=by
 unfold put4
 refine ⟨?_,?_,?_,?_⟩
 ·rw [World.cell?_setCell_other _ _ _ _ (by simp),World.cell?_setCell_other _ _ _ _ (by simp),World.cell?_setCell_other _ _ _ _ (by simp),World.cell?_setCell_same' _ _ _ (by rw [g0];rfl)]
 ·rw [World.cell?_setCell_other _ _ _ _ (by simp),World.cell?_setCell_other _ _ _ _ (by simp),World.cell?_setCell_same' _ _ _ (by rw [World.cell?_setCell_other _ _ _ _ (by simp),g1];rfl)]
 ·rw [World.cell?_setCell_other _ _ _ _ (by simp),World.cell?_setCell_same' _ _ _ (by rw [World.cell?_setCell_other _ _ _ _ (by simp),World.cell?_setCell_other _ _ _ _ (by simp),g2];rfl)]
 ·rw [World.cell?_setCell_same' _ _ _ (by rw [World.cell?_setCell_other _ _ _ _ (by simp),World.cell?_setCell_other _ _ _ _ (by simp),World.cell?_setCell_other _ _ _ _ (by simp),g3];rfl)]
theorem zdv {W:World} {b:Nat} {u0 u1:Value} (v0 v1:Value) (g0:W.cell? ⟨b,0,none⟩=some u0) (g1:W.cell? ⟨b,1,none⟩=some u1) :
  ((W.setCell ⟨b,0,none⟩ v0).setCell ⟨b,1,none⟩ v1).cell? ⟨b,0,none⟩=some v0∧((W.setCell ⟨b,0,none⟩ v0).setCell ⟨b,1,none⟩ v1).cell? ⟨b,1,none⟩=some v1:=by
 refine ⟨?_,?_⟩
 ·rw [World.cell?_setCell_other _ _ _ _ (by simp),World.cell?_setCell_same' _ _ _ (by rw [g0];rfl)]
 ·rw [World.cell?_setCell_same' _ _ _ (by rw [World.cell?_setCell_other _ _ _ _ (by simp),g1];rfl)]
end Go.Proofs.YtjcegdldgjphiaaGreatDoor
namespace Go.Proofs.YtjcegdldgjphiaaGreatDoor
open Go.RowKit Go.Shelf
def N2 (W:World) (b:Nat) (g1:Bool) (A1:Option Addr) (n1 c1:Nat) (g2:Bool) (A2:Option Addr) (n2 c2:Nat):Prop:=
 W.cell? ⟨b,0,none⟩=some (.bool g1)∧W.cell? ⟨b,1,none⟩=some (.slice A1 n1 c1)∧W.cell? ⟨b,2,none⟩=some (.bool g2)∧W.cell? ⟨b,3,none⟩=some (.slice A2 n2 c2)∧b<W.heap.size
theorem N2.via {W W1:World} {b n1 c1 n2 c2:Nat} {g1 g2:Bool} {A1 A2:Option Addr} (h:N2 W b g1 A1 n1 c1 g2 A2 n2 c2) (hb:Below W.heap.size W W1):N2 W1 b g1 A1 n1 c1 g2 A2 n2 c2:=
 ⟨(hb.cell (p:=⟨b,0,none⟩) h.2.2.2.2).trans h.1,(hb.cell (p:=⟨b,1,none⟩) h.2.2.2.2).trans h.2.1,(hb.cell (p:=⟨b,2,none⟩) h.2.2.2.2).trans h.2.2.1,(hb.cell (p:=⟨b,3,none⟩) h.2.2.2.2).trans h.2.2.2.1,Nat.lt_of_lt_of_le h.2.2.2.2 hb.size⟩
theorem ze2 {g1 g2:Bool} {A1 A2:Option Addr} {n1 c1 n2 c2 b:Nat} {l m:List Nat} {w:World} (hn:N2 w b g1 A1 n1 c1 g2 A2 n2 c2) (h:Sl w w.heap.size A1 n1 c1 l) (h2:Sl w w.heap.size A2 n2 c2 m) :
  Calls Tryz.prog 69 #[.slice (some ⟨b,0,none⟩) 2 2] w fun e w'=>e=.returned (.bool (zq g1 l && zq g2 m))∧Below w.heap.size w w':=by
 have R1:=Lib.hid (fun (W:World) (hW:Below w.heap.size w W)=>zbq g1 A1 n1 c1 w.heap.size l W (h.below hW).1 hW.size h.2.1)
 have R2:=Lib.hid (fun (W:World) (hW:Below w.heap.size w W)=>zbq g2 A2 n2 c2 w.heap.size m W (h2.below hW).1 hW.size h2.2.1)
 have HN:=Lib.hid hn
 obtain ⟨r1,hr1⟩:∃r,zq g1 l=r:=⟨_,rfl⟩
 obtain ⟨r2,hr2⟩:∃r,zq g2 m=r:=⟨_,rfl⟩
 rw [hr1] at R1 ⊢
 rw [hr2] at R2 ⊢
 clear h h2 hn hr1 hr2
 go_enter Tryz.func69,Tryz.ntmps69
 go_wp2_with fail
 go_loopw [7] (fun i W=>∃k:Nat,k≤2∧i=.int .i64 k∧Below w.heap.size w W∧Hid ((0<k→r1=true)∧(1<k→r2=true))) (fun i _=>2 - (intOf i).toNat)
 case atStart=>exact ⟨0,by omega,rfl,Below.refl _ _,Lib.hid ⟨fun h=>by omega,fun h=>by omega⟩⟩
 case round =>
  obtain ⟨k,hk,rfl,hBB,hI⟩:=hrel
  obtain ⟨x0,x1,x2,x3,xz⟩:=HN.out.via hBB
  rcases (show k=0∨k=1∨k=2 by omega) with rfl | rfl | rfl
  ·have hbb:Below w.heap.size w (wr.alloc (.cells #[.bool g1,.slice A1 n1 c1] 30)):=hBB.alloc hBB.size _
   cases r1
   ·go_wp2_with (go_at_call 96;go_loud ((with_reducible refine (R1.out _ hbb).mono ?_);rintro e w1 ⟨rfl,hb⟩))
    go_ret
    exact ⟨rfl,hbb.trans (hb.mono hbb.size)⟩
   ·go_wp2_with (go_at_call 96;go_loud ((with_reducible refine (R1.out _ hbb).mono ?_);rintro e w1 ⟨rfl,hb⟩))
    go_roundw
    case rel=>exact ⟨1,by omega,rfl,hbb.trans (hb.mono hbb.size),Lib.hid ⟨by simp,by simp⟩⟩
    case measure=>simp [intOf]
  ·have hbb:Below w.heap.size w (wr.alloc (.cells #[.bool g2,.slice A2 n2 c2] 30)):=hBB.alloc hBB.size _
   have h1:=hI.out.1 (by omega)
   subst h1
   cases r2
   ·go_wp2_with (go_at_call 96;go_loud ((with_reducible refine (R2.out _ hbb).mono ?_);rintro e w1 ⟨rfl,hb⟩))
    go_ret
    exact ⟨rfl,hbb.trans (hb.mono hbb.size)⟩
   ·go_wp2_with (go_at_call 96;go_loud ((with_reducible refine (R2.out _ hbb).mono ?_);rintro e w1 ⟨rfl,hb⟩))
    go_roundw
    case rel=>exact ⟨2,by omega,rfl,hbb.trans (hb.mono hbb.size),Lib.hid ⟨by simp,by simp⟩⟩
    case measure=>simp [intOf]
  ·have h1:=hI.out.1 (by omega)
   have h2:=hI.out.2 (by omega)
   subst h1 h2
   go_wp2_with fail
   go_ret
   exact ⟨rfl,hBB⟩
end Go.Proofs.YtjcegdldgjphiaaGreatDoor
namespace Go.Proofs.YtjcegdldgjphiaaGreatDoor
open Go.RowKit Go.Shelf
abbrev Raw:=Bool×List Nat
def X (xs:List Raw) (i:Nat):Raw:=xs.getD i (false,[])
def nz (x:Int):Raw:=(decide (x<0),digs x.natAbs)
def FNc (xs:List Raw) (es:List Value) (n:Nat):Pred:=fun v W _=>if 100≤n then v=es.getD (n - 100) (.bool false) else if n%2=0 then v=.bool (X xs (n / 2)).1 else ∃A m c,v=.slice A m c∧Sl W W.heap.size A m c (X xs (n / 2)).2
def FN (xs:List Raw) (es:List Value):Fact:=⟨FNc xs es,fun _ vs _ _=>vs=[]⟩
def nm (i:Nat):List Lf:=[.h (2*i),.h (2*i+1)]
def NM (i:Nat):Sh:=.o (.g (nm i))
def RA (i j:Nat):Sh:=.o (.g (nm i++nm j))
def KN (w0:World):Kit:=⟨fun T=>!([123].contains T),fun k=>match k with
 | .u32=>true
 | .u64=>true
 | _=>false,w0⟩
def IsN (x:Raw) (v:Value) (W:World):Prop:=∃A n c,v=.agg #[.bool x.1,.slice A n c]∧Sl W W.heap.size A n c x.2
def IsR (x y:Raw) (v:Value) (W:World):Prop:=∃A n c A2 n2 c2,v=.agg #[.bool x.1,.slice A n c,.bool y.1,.slice A2 n2 c2]∧Sl W W.heap.size A n c x.2∧Sl W W.heap.size A2 n2 c2 y.2
section
variable {xs:List Raw} {es:List Value} {β:Loc} {W W':World} {v:Value}
theorem Sl.oth {w0:World} {D:Dat} {S:Nat→Prop} {B n c:Nat} {A:Option Addr} {l:List Nat} (hS:∀q,S q→Mlq (KN w0) D W q) (hO:Oth S W W') (h:Sl W B A n c l):Sl W' B A n c l:=by
 refine ⟨⟨⟨h.1.1.1,fun hn=>?_⟩,h.1.2⟩,h.2⟩
 obtain ⟨ad,e,hb,hc⟩:=h.1.1.2 hn
 refine ⟨ad,e,hb,fun j u hj=>?_⟩
 have h1:=hc j u hj
 obtain ⟨d,_,hd⟩:=List.mem_map.1 (List.mem_of_getElem? hj)
 have hlt:(ad.add j).block<W.heap.size:=by
  rcases Nat.lt_or_ge (ad.add j).block W.heap.size with hlt | hlt
  ·exact hlt
  ·simp only [World.cell?,Array.getElem?_eq_none hlt] at h1
   cases h1
 have hn2:¬ S (ad.add j).block:=by
  intro hs
  obtain ⟨_,_,o,ho,hm⟩:=hS _ hs
  simp only [World.cell?,ho] at h1
  cases o with
  | cells cs T z =>
   simp only [ml,mlf,Bool.and_eq_true,List.all_eq_true] at hm
   have hmem:u∈cs.toList:=by
    revert h1
    simp only
    split
    ·intro h1;cases h1
    ·intro h1;simpa using Array.mem_of_getElem? h1
   have:=hm.2 u hmem
   rw [← hd] at this
   cases this
  | _=>simp [ml,mlf] at hm
 have h2:=hO.block _ hlt hn2
 simp only [World.cell?,h2] at h1 ⊢
 exact h1
theorem zbH {w0:World} (hes:es.all (KN w0).ck=true):Fine (KN w0) (FN xs es):=by
 refine ⟨fun n=>?_,fun n _=>?_,fun n=>⟨fun _ _ _ h=>h,fun h=>by rw [show _=[] from h];rfl⟩⟩
 ·intro v W W' D D' S hS hO _ h
  change FNc xs es n v W D at h
  show FNc xs es n v W' D'
  unfold FNc at h ⊢
  split at h
  ·rename_i hc
   rw [if_pos hc];exact h
  ·rename_i hc
   rw [if_neg hc]
   split at h
   ·rename_i hc
    rw [if_pos hc];exact h
   ·rename_i hc
    rw [if_neg hc]
    obtain ⟨A,m,c,e,hs⟩:=h
    exact ⟨A,m,c,e,(Sl.oth hS hO hs).more hO.size⟩
 ·intro v W D h
  change FNc xs es n v W D at h
  unfold FNc at h
  split at h
  ·rw [h,List.getD_eq_getElem?_getD]
   cases he:es[n - 100]? with
   | none=>rfl
   | some u=>exact List.all_eq_true.1 hes u (List.mem_of_getElem? he)
  ·split at h
   ·rw [h];rfl
   ·obtain ⟨A,m,c,e,_⟩:=h
    rw [e];rfl
theorem zb0 {i:Nat} (hi:i<50) {vs:List Value} {ls:List Lf}:oks (FN xs es) β (nm i++ls) vs W↔∃A n c us,vs=.bool (X xs i).1::.slice A n c::us∧Sl W W.heap.size A n c (X xs i).2∧oks (FN xs es) β ls us W:=by
 have h0:∀v,FN xs es (2*i) v W β.D↔v=.bool (X xs i).1:=fun v=>by
  show FNc xs es (2*i) v W β.D↔_
  unfold FNc;rw [if_neg (by omega),if_pos (by omega),show 2*i / 2=i by omega]
 have h1:∀v,FN xs es (2*i+1) v W β.D↔∃A m c,v=.slice A m c∧Sl W W.heap.size A m c (X xs i).2:=fun v=>by
  show FNc xs es (2*i+1) v W β.D↔_
  unfold FNc;rw [if_neg (by omega),if_neg (by omega),show (2*i+1) / 2=i by omega]
 constructor
 ·intro h
  match vs,h with
  | v0::v1::us,⟨e0,e1,e2⟩ =>
   obtain ⟨A,m,c,e,hs⟩:=(h1 v1).1 e1
   exact ⟨A,m,c,us,by rw [(h0 v0).1 e0,e],hs,e2⟩
  | [_],⟨_,h⟩=>exact h.elim
  | [],h=>exact h.elim
 ·rintro ⟨A,n,c,us,rfl,hs,h⟩
  exact ⟨(h0 _).2 rfl,(h1 _).2 ⟨A,n,c,rfl,hs⟩,h⟩
theorem zgJ {us:List Value} {F:Fact}:oks F β [] us W↔us=[]:=by cases us<;>simp [oks]
theorem NM_is {i:Nat} (hi:i<50):(NM i).ok (FN xs es) β v W↔IsN (X xs i) v W:=by
 constructor
 ·rintro ⟨vs,rfl,h⟩
  rw [show nm i=nm i++[] by simp,zb0 hi] at h
  obtain ⟨A,n,c,us,e,hs,h⟩:=h
  rw [zgJ] at h
  subst h
  exact ⟨A,n,c,by rw [← Array.toArray_toList (xs:=vs),e],hs⟩
 ·rintro ⟨A,n,c,rfl,hs⟩
  exact ⟨_,rfl,by rw [show nm i=nm i++[] by simp,zb0 hi];exact ⟨A,n,c,[],rfl,hs,trivial⟩⟩
theorem RA_is {i j:Nat} (hi:i<50) (hj:j<50):(RA i j).ok (FN xs es) β v W↔IsR (X xs i) (X xs j) v W:=by
 constructor
 ·rintro ⟨vs,rfl,h⟩
  rw [zb0 hi,show nm j=nm j++[] by simp] at h
  obtain ⟨A,n,c,us,e,hs,h⟩:=h
  rw [zb0 hj] at h
  obtain ⟨A2,n2,c2,us2,e2,hs2,h⟩:=h
  rw [zgJ] at h
  subst h;subst e2
  exact ⟨A,n,c,A2,n2,c2,by rw [← Array.toArray_toList (xs:=vs),e],hs,hs2⟩
 ·rintro ⟨A,n,c,A2,n2,c2,rfl,hs,hs2⟩
  refine ⟨_,rfl,?_⟩
  rw [zb0 hi,show nm j=nm j++[] by simp]
  refine ⟨A,n,c,_,rfl,hs,?_⟩
  rw [zb0 hj]
  exact ⟨A2,n2,c2,[],rfl,hs2,trivial⟩
theorem zQ {k:Nat} {u:Value} (h:es.getD k (.bool false)=u):Gives (FN xs es) (.h (100+k)) u:=fun β v W=>by
 subst h
 show FNc xs es (100+k) v W β.D↔_
 unfold FNc
 rw [if_pos (by omega),show 100+k - 100=k by omega]
end
theorem zba {K:Kit} {P:Program} {F:Fact} {f:FuncId} {ag:List Sh} {res:Sh} (h:∀(β:Loc) (W:World) (vs:List Value),shs F β ag vs W→Below K.w0.heap.size K.w0 W→Calls P f vs.toArray W fun e W'=>∃v,e=.returned v∧res.ok F β v W'∧Below W.heap.size W W'):Con.sound K P F ⟨f,ag,[],res,[]⟩:=by
 refine ⟨rfl,fun β W vs hs _ hg=>(h β W vs hs hg.bel).mono fun e W' hr=>?_⟩
 obtain ⟨v,rfl,h1,h2⟩:=hr
 have hO:Oth (fun _=>False) W W':=Oth.ofBelow h2
 exact ⟨v,β,rfl,h1,hO.mono fun _ h=>h.elim,fun x h=>(by cases h),fun b _=>Loc.same.rfl,fun _ h=>h,fun _ h=>.inl h,fun b h=>(by cases h),hg.mono (fun _ h=>h.elim) hO⟩
def β0:Loc:=⟨fun _=>none,fun _=>(0,0),fun _=>False⟩
theorem zmW {K:Kit} {P:Program} {F:Fact} {f:FuncId} {ag:List Sh} {res:Sh} {W:World} {vs:List Value} (h:Con.sound K P F ⟨f,ag,[],res,[]⟩) (hs:shs F β0 ag vs W) (hw:Below K.w0.heap.size K.w0 W):Calls P f vs.toArray W fun e W'=>∃v β',e=.returned v∧res.ok F β' v W'∧Below W.heap.size W W':=by
 refine (h.2 _ W vs hs (fun x h=>(by cases h)) ⟨fun b q h=>(by cases h),fun b c q h=>(by cases h),hw,fun b q h=>(by cases h),fun q h=>h.elim⟩).mono fun e W' hr=>?_
 obtain ⟨v,β',rfl,hb⟩:=hr
 exact ⟨v,β',rfl,hb.res,hb.oth.below (fun q ⟨b,h,_⟩=>by cases h)⟩
def addX (x y:Raw):Option Int:=sumS x.1 x.2 y.1 y.2 y.1
def subX (x y:Raw):Option Int:=sumS x.1 x.2 y.1 y.2 (!y.1)
def mulX (x y:Raw):Option Int:=mulS x.1 x.2 y.1 y.2
def gcdX (x y:Raw):Option Int:=gcdS x.1 x.2 y.1 y.2
def divX (x y:Raw):Option (Int×Int):=divS x.1 x.2 y.1 y.2
def cmpX (x y:Raw):Int:=cmpS x.1 x.2 y.1 y.2
def qi (x:Raw):Bool:=zq x.1 x.2
section
variable {xs:List Raw} {es:List Value} {w0:World}
theorem zo2 {i j k:Nat} {o:Lf} (h:X xs k=nz (vO (addX (X xs i) (X xs j)))) (ho:Gives (FN xs es) o (.bool (okO (addX (X xs i) (X xs j))))) (hi:i<50:=by first | assumption | decide) (hj:j<50:=by first | assumption | decide) (hk:k<50:=by first | assumption | decide):Con.sound (KN w0) Tryz.prog (FN xs es) ⟨113,[NM i,NM j],[],.t [.g (nm k),.c o],[]⟩:=by
 refine zba fun β W vs hs _=>?_
 match vs,hs with
 | [a,b],⟨ha,hb,_⟩ =>
  obtain ⟨A,n,c,rfl,s1⟩:=(NM_is hi).1 ha
  obtain ⟨A2,n2,c2,rfl,s2⟩:=(NM_is hj).1 hb
  refine (ziu _ _ s1 s2 (Nat.le_refl _)).mono fun e W' hr=>?_
  obtain ⟨A3,n3,c3,rfl,s3,hb⟩:=hr
  refine ⟨_,rfl,⟨_,rfl,(NM_is hk (v:=.agg #[_,_])).2 ?_,(ho β _ W').2 rfl,trivial⟩,hb⟩
  rw [h]
  exact ⟨A3,n3,c3,rfl,s3⟩
 | [],h=>exact h.elim
 | [_],h=>exact h.2.elim
 | _::_::_::_,h=>exact h.2.2.elim
theorem zuP {i j k:Nat} {o:Lf} (h:X xs k=nz (vO (subX (X xs i) (X xs j)))) (ho:Gives (FN xs es) o (.bool (okO (subX (X xs i) (X xs j))))) (hi:i<50:=by first | assumption | decide) (hj:j<50:=by first | assumption | decide) (hk:k<50:=by first | assumption | decide):Con.sound (KN w0) Tryz.prog (FN xs es) ⟨144,[NM i,NM j],[],.t [.g (nm k),.c o],[]⟩:=by
 refine zba fun β W vs hs _=>?_
 match vs,hs with
 | [a,b],⟨ha,hb,_⟩ =>
  obtain ⟨A,n,c,rfl,s1⟩:=(NM_is hi).1 ha
  obtain ⟨A2,n2,c2,rfl,s2⟩:=(NM_is hj).1 hb
  refine (ztl _ _ s1 s2 (Nat.le_refl _)).mono fun e W' hr=>?_
  obtain ⟨A3,n3,c3,rfl,s3,hb⟩:=hr
  refine ⟨_,rfl,⟨_,rfl,(NM_is hk (v:=.agg #[_,_])).2 ?_,(ho β _ W').2 rfl,trivial⟩,hb⟩
  rw [h]
  exact ⟨A3,n3,c3,rfl,s3⟩
 | [],h=>exact h.elim
 | [_],h=>exact h.2.elim
 | _::_::_::_,h=>exact h.2.2.elim
theorem zuN {i j k:Nat} {o:Lf} (h:X xs k=nz (vO (mulX (X xs i) (X xs j)))) (ho:Gives (FN xs es) o (.bool (okO (mulX (X xs i) (X xs j))))) (hi:i<50:=by first | assumption | decide) (hj:j<50:=by first | assumption | decide) (hk:k<50:=by first | assumption | decide):Con.sound (KN w0) Tryz.prog (FN xs es) ⟨112,[NM i,NM j],[],.t [.g (nm k),.c o],[]⟩:=by
 refine zba fun β W vs hs _=>?_
 match vs,hs with
 | [a,b],⟨ha,hb,_⟩ =>
  obtain ⟨A,n,c,rfl,s1⟩:=(NM_is hi).1 ha
  obtain ⟨A2,n2,c2,rfl,s2⟩:=(NM_is hj).1 hb
  refine (ztd _ _ s1 s2 (Nat.le_refl _)).mono fun e W' hr=>?_
  obtain ⟨A3,n3,c3,rfl,s3,hb⟩:=hr
  refine ⟨_,rfl,⟨_,rfl,(NM_is hk (v:=.agg #[_,_])).2 ?_,(ho β _ W').2 rfl,trivial⟩,hb⟩
  rw [h]
  exact ⟨A3,n3,c3,rfl,s3⟩
 | [],h=>exact h.elim
 | [_],h=>exact h.2.elim
 | _::_::_::_,h=>exact h.2.2.elim
theorem c_gcd {i j k:Nat} {o:Lf} (h:X xs k=nz (vO (gcdX (X xs i) (X xs j)))) (ho:Gives (FN xs es) o (.bool (okO (gcdX (X xs i) (X xs j))))) (hi:i<50:=by first | assumption | decide) (hj:j<50:=by first | assumption | decide) (hk:k<50:=by first | assumption | decide):Con.sound (KN w0) Tryz.prog (FN xs es) ⟨72,[NM i,NM j],[],.t [.g (nm k),.c o],[]⟩:=by
 refine zba fun β W vs hs _=>?_
 match vs,hs with
 | [a,b],⟨ha,hb,_⟩ =>
  obtain ⟨A,n,c,rfl,s1⟩:=(NM_is hi).1 ha
  obtain ⟨A2,n2,c2,rfl,s2⟩:=(NM_is hj).1 hb
  refine (zm3 _ _ s1 s2 (Nat.le_refl _)).mono fun e W' hr=>?_
  obtain ⟨A3,n3,c3,rfl,s3,hb⟩:=hr
  refine ⟨_,rfl,⟨_,rfl,(NM_is hk (v:=.agg #[_,_])).2 ?_,(ho β _ W').2 rfl,trivial⟩,hb⟩
  rw [h]
  exact ⟨A3,n3,c3,rfl,s3⟩
 | [],h=>exact h.elim
 | [_],h=>exact h.2.elim
 | _::_::_::_,h=>exact h.2.2.elim
theorem zq7 {i j k:Nat} {o:Lf} (h:X xs k=nz (vO (gcdX (X xs i) (X xs j)))) (ho:Gives (FN xs es) o (.bool (okO (gcdX (X xs i) (X xs j))))) (hi:i<50:=by first | assumption | decide) (hj:j<50:=by first | assumption | decide) (hk:k<50:=by first | assumption | decide):Con.sound (KN w0) Tryz.prog (FN xs es) ⟨78,[NM i,NM j],[],.t [.g (nm k),.c o],[]⟩:=by
 refine zba fun β W vs hs _=>?_
 match vs,hs with
 | [a,b],⟨ha,hb,_⟩ =>
  obtain ⟨A,n,c,rfl,s1⟩:=(NM_is hi).1 ha
  obtain ⟨A2,n2,c2,rfl,s2⟩:=(NM_is hj).1 hb
  refine (zs9 _ _ s1 s2 (Nat.le_refl _)).mono fun e W' hr=>?_
  obtain ⟨A3,n3,c3,rfl,s3,hb⟩:=hr
  refine ⟨_,rfl,⟨_,rfl,(NM_is hk (v:=.agg #[_,_])).2 ?_,(ho β _ W').2 rfl,trivial⟩,hb⟩
  rw [h]
  exact ⟨A3,n3,c3,rfl,s3⟩
 | [],h=>exact h.elim
 | [_],h=>exact h.2.elim
 | _::_::_::_,h=>exact h.2.2.elim
theorem c_cmp {i j:Nat} {o:Lf} (ho:Gives (FN xs es) o (.int .i64 (cmpX (X xs i) (X xs j)))) (hi:i<50:=by first | assumption | decide) (hj:j<50:=by first | assumption | decide):Con.sound (KN w0) Tryz.prog (FN xs es) ⟨70,[NM i,NM j],[],LF o,[]⟩:=by
 refine zba fun β W vs hs _=>?_
 match vs,hs with
 | [a,b],⟨ha,hb,_⟩ =>
  obtain ⟨A,n,c,rfl,s1⟩:=(NM_is hi).1 ha
  obtain ⟨A2,n2,c2,rfl,s2⟩:=(NM_is hj).1 hb
  refine (zmQ _ _ s1 s2 (Nat.le_refl _)).mono fun e W' hr=>?_
  obtain ⟨rfl,hb⟩:=hr
  exact ⟨_,rfl,(ho β _ W').2 rfl,hb⟩
 | [],h=>exact h.elim
 | [_],h=>exact h.2.elim
 | _::_::_::_,h=>exact h.2.2.elim
theorem zpb {i j:Nat} {o:Lf} (ho:Gives (FN xs es) o (.int .i64 (cmpX (X xs i) (X xs j)))) (hi:i<50:=by first | assumption | decide) (hj:j<50:=by first | assumption | decide):Con.sound (KN w0) Tryz.prog (FN xs es) ⟨76,[NM i,NM j],[],LF o,[]⟩:=by
 refine zba fun β W vs hs _=>?_
 match vs,hs with
 | [a,b],⟨ha,hb,_⟩ =>
  obtain ⟨A,n,c,rfl,s1⟩:=(NM_is hi).1 ha
  obtain ⟨A2,n2,c2,rfl,s2⟩:=(NM_is hj).1 hb
  refine (zs1 _ _ s1 s2 (Nat.le_refl _)).mono fun e W' hr=>?_
  obtain ⟨rfl,hb⟩:=hr
  exact ⟨_,rfl,(ho β _ W').2 rfl,hb⟩
 | [],h=>exact h.elim
 | [_],h=>exact h.2.elim
 | _::_::_::_,h=>exact h.2.2.elim
theorem zuM {i j k k2:Nat} {o:Lf} (h:X xs k=nz (dqO (divX (X xs i) (X xs j)))) (h2:X xs k2=nz (drO (divX (X xs i) (X xs j)))) (ho:Gives (FN xs es) o (.bool (divX (X xs i) (X xs j)).isSome)) (hi:i<50:=by first | assumption | decide) (hj:j<50:=by first | assumption | decide) (hk:k<50:=by first | assumption | decide) (hk2:k2<50:=by first | assumption | decide):Con.sound (KN w0) Tryz.prog (FN xs es) ⟨143,[NM i,NM j],[],.t [.g (nm k),.g (nm k2),.c o],[]⟩:=by
 refine zba fun β W vs hs _=>?_
 match vs,hs with
 | [a,b],⟨ha,hb,_⟩ =>
  obtain ⟨A,n,c,rfl,s1⟩:=(NM_is hi).1 ha
  obtain ⟨A2,n2,c2,rfl,s2⟩:=(NM_is hj).1 hb
  refine (zs5 _ _ s1 s2 (Nat.le_refl _)).mono fun e W' hr=>?_
  obtain ⟨A3,n3,c3,A4,n4,c4,rfl,s3,s4,hb⟩:=hr
  refine ⟨_,rfl,⟨_,rfl,(NM_is hk (v:=.agg #[_,_])).2 ?_,(NM_is hk2 (v:=.agg #[_,_])).2 ?_,(ho β _ W').2 rfl,trivial⟩,hb⟩
  ·rw [h]
   exact ⟨A3,n3,c3,rfl,s3⟩
  ·rw [h2]
   exact ⟨A4,n4,c4,rfl,s4⟩
 | [],h=>exact h.elim
 | [_],h=>exact h.2.elim
 | _::_::_::_,h=>exact h.2.2.elim
theorem zo4 {i:Nat} {o:Lf} (ho:Gives (FN xs es) o (.bool (qi (X xs i)))) (hi:i<50:=by first | assumption | decide):Con.sound (KN w0) Tryz.prog (FN xs es) ⟨96,[NM i],[],LF o,[]⟩:=by
 refine zba fun β W vs hs _=>?_
 match vs,hs with
 | [a],⟨ha,_⟩ =>
  obtain ⟨A,n,c,rfl,s1⟩:=(NM_is hi).1 ha
  refine (zbq _ A n c W.heap.size _ W s1.1 (Nat.le_refl _) s1.2.1).mono fun e W' hr=>?_
  obtain ⟨rfl,hb⟩:=hr
  exact ⟨_,rfl,(ho β _ W').2 rfl,hb⟩
 | [],h=>exact h.elim
 | _::_::_,h=>exact h.2.elim
theorem zwO {i:Nat} {o:Lf} (ho:Gives (FN xs es) o (.bool (qi (X xs i)))) (hi:i<50:=by first | assumption | decide):Con.sound (KN w0) Tryz.prog (FN xs es) ⟨75,[NM i],[],LF o,[]⟩:=by
 refine zba fun β W vs hs _=>?_
 match vs,hs with
 | [a],⟨ha,_⟩ =>
  obtain ⟨A,n,c,rfl,s1⟩:=(NM_is hi).1 ha
  refine (ze6 _ A n c W.heap.size _ W s1.1 (Nat.le_refl _) s1.2.1).mono fun e W' hr=>?_
  obtain ⟨rfl,hb⟩:=hr
  exact ⟨_,rfl,(ho β _ W').2 rfl,hb⟩
 | [],h=>exact h.elim
 | _::_::_,h=>exact h.2.elim
theorem zn5 {i:Nat} {o:Lf} (hT:∀W,Below w0.heap.size w0 W→PowT w0.heap.size W) (ho:Gives (FN xs es) o (.string ⟨(textS (X xs i).1 (X xs i).2).toArray⟩)) (hi:i<50:=by first | assumption | decide):Con.sound (KN w0) Tryz.prog (FN xs es) ⟨74,[NM i],[],LF o,[]⟩:=by
 refine zba fun β W vs hs hw=>?_
 match vs,hs with
 | [a],⟨ha,_⟩ =>
  obtain ⟨A,n,c,rfl,s1⟩:=(NM_is hi).1 ha
  refine (zhT _ s1 (Nat.le_refl _) ((hT W hw).mono hw.size)).mono fun e W' hr=>?_
  obtain ⟨rfl,hb⟩:=hr
  exact ⟨_,rfl,(ho β _ W').2 rfl,hb⟩
 | [],h=>exact h.elim
 | _::_::_,h=>exact h.2.elim
theorem c_of {k:Nat} {a:Lf} {x:Int} (ha:Gives (FN xs es) a (.int .i64 x)) (h0:-9223372036854775808≤x) (h1:x<9223372036854775808) (h:X xs k=nz x) (hk:k<50:=by first | assumption | decide):Con.sound (KN w0) Tryz.prog (FN xs es) ⟨98,[LF a],[],NM k,[]⟩:=by
 refine zba fun β W vs hs _=>?_
 match vs,hs with
 | [v],⟨hv,_⟩ =>
  have:=(ha β v W).1 hv
  subst this
  refine (zol x W h0 h1).mono fun e W' hr=>?_
  obtain ⟨A,n,c,rfl,s,hb⟩:=hr
  exact ⟨_,rfl,(NM_is hk).2 (by rw [h];exact ⟨A,n,c,rfl,s⟩),hb⟩
 | [],h=>exact h.elim
 | _::_::_,h=>exact h.2.elim
theorem zmN {k:Nat} {a o:Lf} {s:List UInt8} (hT:∀W,Below w0.heap.size w0 W→PowT w0.heap.size W∧SynT w0.heap.size W) (ha:Gives (FN xs es) a (.string ⟨s.toArray⟩)) (h:X xs k=nz (vO (zn s))) (ho:Gives (FN xs es) o (.bool (okO (zn s)))) (hk:k<50:=by first | assumption | decide):Con.sound (KN w0) Tryz.prog (FN xs es) ⟨109,[LF a],[],.t [.g (nm k),.c o],[]⟩:=by
 refine zba fun β W vs hs hw=>?_
 match vs,hs with
 | [v],⟨hv,_⟩ =>
  have:=(ha β v W).1 hv
  subst this
  refine (zjX s W hw.size (hT W hw).1 (hT W hw).2).mono fun e W' hr=>?_
  obtain ⟨A,n,c,rfl,s,hb⟩:=hr
  exact ⟨_,rfl,⟨_,rfl,(NM_is hk (v:=.agg #[_,_])).2 (by rw [h];exact ⟨A,n,c,rfl,s⟩),(ho β _ W').2 rfl,trivial⟩,hb⟩
 | [],h=>exact h.elim
 | _::_::_,h=>exact h.2.elim
end
end Go.Proofs.YtjcegdldgjphiaaGreatDoor
namespace Go.Proofs.YtjcegdldgjphiaaGreatDoor
open Go.RowKit Go.Shelf
theorem tr {K:Kit} {P:Program} {F F':Fact} {f:FuncId} {ag ag':List Sh} {res res':Sh} (h:Con.sound K P F' ⟨f,ag',[],res',[]⟩) (ha:∀β vs W,shs F β ag vs W→shs F' β0 ag' vs W) (hr:∀β β' v W,res'.ok F' β' v W→res.ok F β v W):Con.sound K P F ⟨f,ag,[],res,[]⟩ :=
 zba fun β W _ hs hw=>(zmW h (ha β _ W hs) hw).mono fun _ _ ⟨v,β',e,h1,h2⟩=>⟨v,e,hr β β' v _ h1,h2⟩
section
variable {F F':Fact} {β β':Loc} {W:World}
theorem sh0:∀(β:Loc) vs W,shs F β [] vs W→shs F' β0 [] vs W
 | _,[],_,_=>trivial
 | _,_::_,_,h=>h.elim
theorem sh1 {a a':Sh} (h:∀β v W,a.ok F β v W→a'.ok F' β0 v W):∀(β:Loc) vs W,shs F β [a] vs W→shs F' β0 [a'] vs W
 | _,[_],_,hs=>⟨h _ _ _ hs.1,trivial⟩
 | _,[],_,h=>h.elim
 | _,_::_::_,_,h=>h.2.elim
theorem sh2 {a a' b b':Sh} (h:∀β v W,a.ok F β v W→a'.ok F' β0 v W) (h2:∀β v W,b.ok F β v W→b'.ok F' β0 v W):∀(β:Loc) vs W,shs F β [a,b] vs W→shs F' β0 [a',b'] vs W
 | _,[_,_],_,hs=>⟨h _ _ _ hs.1,h2 _ _ _ hs.2.1,trivial⟩
 | _,[],_,h=>h.elim
 | _,[_],_,h=>h.2.elim
 | _,_::_::_::_,_,h=>h.2.2.elim
end
section
variable {xs xs':List Raw} {es es':List Value} {w0:World} {i j k l i' j' k' l':Nat}
theorem NM_mv (h:X xs' i'=X xs i) (hi:i<50:=by first | assumption | decide) (hi':i'<50:=by first | assumption | decide):∀β v W,(NM i).ok (FN xs es) β v W→(NM i').ok (FN xs' es') β0 v W:=fun _ _ _ hv=>by
 rw [NM_is hi] at hv;rw [NM_is hi',h];exact hv
theorem NM_bk (h:X xs' i'=X xs i) (hi:i<50:=by first | assumption | decide) (hi':i'<50:=by first | assumption | decide):∀β β' v W,(NM i').ok (FN xs' es') β' v W→(NM i).ok (FN xs es) β v W:=fun _ _ _ _ hv=>by
 rw [NM_is hi',h] at hv;rw [NM_is hi];exact hv
theorem RA_mv (h:X xs' i'=X xs i) (h2:X xs' j'=X xs j) (hi:i<50:=by first | assumption | decide) (hj:j<50:=by first | assumption | decide) (hi':i'<50:=by first | assumption | decide) (hj':j'<50:=by first | assumption | decide):∀β v W,(RA i j).ok (FN xs es) β v W→(RA i' j').ok (FN xs' es') β0 v W:=fun _ _ _ hv=>by
 rw [RA_is hi hj] at hv;rw [RA_is hi' hj',h,h2];exact hv
theorem RA_bk (h:X xs' i'=X xs i) (h2:X xs' j'=X xs j) (hi:i<50:=by first | assumption | decide) (hj:j<50:=by first | assumption | decide) (hi':i'<50:=by first | assumption | decide) (hj':j'<50:=by first | assumption | decide):∀β β' v W,(RA i' j').ok (FN xs' es') β' v W→(RA i j).ok (FN xs es) β v W:=fun _ _ _ _ hv=>by
 rw [RA_is hi' hj',h,h2] at hv;rw [RA_is hi hj];exact hv
theorem LF_mv {F F':Fact} {L L':Lf} {u:Value} (hL:Gives F L u) (hL':Gives F' L' u):∀(β:Loc) v W,(LF L).ok F β v W→(LF L').ok F' β0 v W:=fun β v W hv=>(hL' _ v W).2 ((hL β v W).1 hv)
theorem LF_bk {F F':Fact} {L L':Lf} {u:Value} (hL:Gives F L u) (hL':Gives F' L' u):∀(β β':Loc) v W,(LF L').ok F' β' v W→(LF L).ok F β v W:=fun β β' v W hv=>(hL β v W).2 ((hL' β' v W).1 hv)
theorem T2_bk {F F':Fact} {a b a' b':Cm} (h:∀(β β':Loc) v W,(Sh.o a').ok F' β' v W→(Sh.o a).ok F β v W) (h2:∀(β β':Loc) v W,(Sh.o b').ok F' β' v W→(Sh.o b).ok F β v W):∀(β β':Loc) v W,(Sh.t [a',b']).ok F' β' v W→(Sh.t [a,b]).ok F β v W:=by
 rintro β β' v W ⟨vs,rfl,hs⟩
 refine ⟨vs,rfl,?_⟩
 match vs.toList,hs with
 | [x,y],⟨h1,h3,_⟩=>exact ⟨h β β' x W h1,h2 β β' y W h3,trivial⟩
 | [],h=>exact h.elim
 | [_],h=>exact h.2.elim
 | _::_::_::_,h=>exact h.2.2.elim
end
theorem c_bin {K:Kit} {P:Program} {F:Fact} {op:BinOp} {T:TypeId} {x y o:Lf} {k:IntKind} {a b:Int} {r:Bool} (hx:Gives F x (.int k a)) (hy:Gives F y (.int k b)) (hr:binK op a b=some r) (ho:Gives F o (.bool r)):Ent.sound K P F (.bin op T (LF x) (LF y) (LF o)):=by
 intro β W vx vy h1 h2
 rw [(hx β vx W).1 h1,(hy β vy W).1 h2]
 exact ⟨.bool r,fun X Y=>zgc hr T X Y,(ho β _ W).2 rfl⟩
theorem c_fb {K:Kit} {P:Program} {F:Fact} {n:Nat} {b:Bool} (h:Gives F (.h n) (.bool b)):Ent.sound K P F (.fb n b):=fun v W D hv=>(h ⟨fun _=>none,fun _=>(0,0),D⟩ v W).1 hv
end Go.Proofs.YtjcegdldgjphiaaGreatDoor
namespace Go.Proofs.YtjcegdldgjphiaaGreatDoor
open Go.RowKit Go.Shelf
section
variable {x y:Int}
theorem ze8 (hx:x.natAbs<big):qi (nz x)=true:=(Rt.of x hx).right
theorem zvn (hx:x.natAbs<big) (hy:y.natAbs<big):addX (nz x) (nz y)=fitO (x+y):=by
 show sumS (decide (x<0)) (digs x.natAbs) (decide (y<0)) (digs y.natAbs) (decide (y<0))=_
 unfold sumS;rw [if_pos ⟨(Rt.of x hx).right,(Rt.of y hy).right⟩,zp,zp,zcR,zcR]
theorem zvY (hx:x.natAbs<big) (hy:y.natAbs<big):subX (nz x) (nz y)=fitO (x - y):=by
 show sumS (decide (x<0)) (digs x.natAbs) (decide (y<0)) (digs y.natAbs) (!decide (y<0))=_
 unfold sumS;rw [if_pos ⟨(Rt.of x hx).right,(Rt.of y hy).right⟩,zp,zp,zcR,zvX,Int.sub_eq_add_neg]
theorem zvL (hx:x.natAbs<big) (hy:y.natAbs<big):mulX (nz x) (nz y)=fitO (x*y):=by
 show mulS (decide (x<0)) (digs x.natAbs) (decide (y<0)) (digs y.natAbs)=_
 unfold mulS;rw [if_pos ⟨(Rt.of x hx).right,(Rt.of y hy).right⟩,zp,zp,zcR,zcR]
theorem zm2 (hx:x.natAbs<big) (hy:y.natAbs<big):gcdX (nz x) (nz y)=some ((Nat.gcd x.natAbs y.natAbs:Nat):Int):=by
 show gcdS (decide (x<0)) (digs x.natAbs) (decide (y<0)) (digs y.natAbs)=_
 unfold gcdS;rw [if_pos ⟨(Rt.of x hx).right,(Rt.of y hy).right⟩,zp,zp]
 exact zhz (by simpa using zjA hx hy)
theorem zq8 (hx:x.natAbs<big) (hy:y.natAbs<big) (h0:y≠0):divX (nz x) (nz y)=some (x / y,x%y):=by
 show divS (decide (x<0)) (digs x.natAbs) (decide (y<0)) (digs y.natAbs)=_
 unfold divS;rw [if_pos ⟨(Rt.of x hx).right,(Rt.of y hy).right,fun e=>h0 (by have:=zcf.1 e;omega)⟩,zp,zp,zcR,zcR]
theorem zi9 (hx:x.natAbs<big) (hy:y.natAbs<big):cmpX (nz x) (nz y)=cmpI x y:=by
 show cmpS (decide (x<0)) (digs x.natAbs) (decide (y<0)) (digs y.natAbs)=_
 unfold cmpS;rw [if_pos ⟨(Rt.of x hx).right,(Rt.of y hy).right⟩,zp,zp,zcR,zcR]
theorem nz_v:sgn (nz x).1 (nval (nz x).2)=x:=by
 show sgn (decide (x<0)) (nval (digs x.natAbs))=x
 rw [zp,zcR]
theorem nz_a:nval (nz x).2=x.natAbs:=zp _
theorem zmA {x:Raw} (h:qi x=true) (hd:Dig x.2):∃a:Int,x=nz a∧a.natAbs<big:=by
 obtain ⟨g,l⟩:=x
 obtain ⟨hc,hl,h0⟩:=zJ h hd
 refine ⟨sgn g (nval l),?_,by rw [qc];exact (qK hc).1 hl⟩
 unfold nz
 rw [qc,← zbz hc]
 congr 1
 cases g
 ·simp [sgn]
 ·have:nval l≠0:=fun h=>by have:=h0 (qL hc h);cases this
  simp [sgn];omega
theorem zdq {x:Int} (h:x.natAbs≤18446744073709551616):x.natAbs<big:=(Rt.small h).2
def vX (x:Raw):Int:=sgn x.1 (nval x.2)
theorem vX_nz:vX (nz x)=x:=nz_v
def rrX (x y:Raw):Bool:=zor x.1 x.2 y.1 y.2
theorem zmC (a b:Raw):rrX a b=(qi a && (qi b && (decide (0<vX b) && decide (Nat.gcd (nval a.2) (nval b.2)=1)))):=rfl
theorem zot (hx:x.natAbs<big) (hy:y.natAbs<big):rrX (nz x) (nz y)=(decide (0<y) && decide (Nat.gcd x.natAbs y.natAbs=1)):=by
 rw [zmC,ze8 hx,ze8 hy,vX_nz,nz_a,nz_a,Bool.true_and,Bool.true_and]
theorem rrX_q {q:Rat} (h:q.num.natAbs<big) (h2:q.den<big):rrX (nz q.num) (nz (q.den:Int))=true:=by
 rw [zot h (by simpa using h2)]
 have:=q.den_nz
 simp only [Bool.and_eq_true,decide_eq_true_eq]
 exact ⟨by omega,by simpa using q.reduced⟩
def ofX (x y:Raw):Option Rat:=if (qi x && qi y)=true then ofR (vX x) (vX y) else none
theorem zsM (hx:x.natAbs<big) (hy:y.natAbs<big):ofX (nz x) (nz y)=ofR x y:=by
 unfold ofX;rw [if_pos (by rw [ze8 hx,ze8 hy];rfl),vX_nz,vX_nz]
end
section
variable {K:Kit} {P:Program} {F:Fact} {xs:List Raw} {es:List Value} {w0:World} {f:FuncId} {res:Sh} {i j k l:Nat}
theorem dgN2 (h:Dig (X xs i).2→Dig (X xs j).2→Con.sound K P (FN xs es) ⟨f,[NM i,NM j],[],res,[]⟩) (hi:i<50:=by first | assumption | decide) (hj:j<50:=by first | assumption | decide):Con.sound K P (FN xs es) ⟨f,[NM i,NM j],[],res,[]⟩:=by
 refine ⟨rfl,fun β W vs hs=>?_⟩
 match vs,hs with
 | [a,b],hs =>
  obtain ⟨A,n,c,_,s1⟩:=(NM_is hi).1 hs.1
  obtain ⟨A,n,c,_,s2⟩:=(NM_is hj).1 hs.2.1
  exact (h s1.dig s2.dig).2 β W [a,b] hs
 | [],h=>exact h.elim
 | [_],h=>exact h.2.elim
 | _::_::_::_,h=>exact h.2.2.elim
theorem dgR1 (h:Dig (X xs i).2→Dig (X xs j).2→Con.sound K P (FN xs es) ⟨f,[RA i j],[],res,[]⟩) (hi:i<50:=by first | assumption | decide) (hj:j<50:=by first | assumption | decide):Con.sound K P (FN xs es) ⟨f,[RA i j],[],res,[]⟩:=by
 refine ⟨rfl,fun β W vs hs=>?_⟩
 match vs,hs with
 | [a],hs =>
  obtain ⟨A,n,c,_,_,_,_,s1,s2⟩:=(RA_is hi hj).1 hs.1
  exact (h s1.dig s2.dig).2 β W [a] hs
 | [],h=>exact h.elim
 | _::_::_,h=>exact h.2.elim
def ZC:List Lf:=[.k (.bool false),.k (.slice none 0 0),.k (.bool false),.k (.slice none 0 0)]
theorem zna:nz 0=(false,[]):=by unfold nz;rw [show Int.natAbs 0=0 from rfl,zw];rfl
theorem ZR_bk {F':Fact} (h:X xs i=nz 0) (h2:X xs j=nz 0) (hi:i<50:=by first | assumption | decide) (hj:j<50:=by first | assumption | decide):∀(β β':Loc) v W,(Sh.o (.g ZC)).ok F' β' v W→(RA i j).ok (FN xs es) β v W:=by
 rintro β β' v W ⟨vs,rfl,hs⟩
 rw [RA_is hi hj,h,h2,zna]
 refine ⟨none,0,0,none,0,0,?_,Sl.none_,Sl.none_⟩
 rw [← Array.toArray_toList (xs:=vs)]
 match vs.toList,hs with
 | [a,b,c,d],⟨h1,h2,h3,h4,_⟩ =>
  rw [show a=_ from h1,show b=_ from h2,show c=_ from h3,show d=_ from h4]
 | [],h=>exact h.elim
 | [_],h=>exact h.2.elim
 | [_,_],h=>exact h.2.2.elim
 | [_,_,_],h=>exact h.2.2.2.elim
 | _::_::_::_::_::_,h=>exact h.2.2.2.2.elim
end
theorem mixed:Tryz.prog.follows .mixedOrders=true:=by kernel_rfl
end Go.Proofs.YtjcegdldgjphiaaGreatDoor
