/-
  Merged: NumP.
-/
import Derived.Test.YtjcegdldgjphiaaGreatDoorGpAH
import Derived.Test.YtjcegdldgjphiaaGreatDoorGpAI
import Derived.Deep.RegionHeld3
set_option linter.unusedSimpArgs false
set_option linter.unusedVariables false
set_option maxRecDepth 100000
set_option maxHeartbeats 1000000
namespace Go.Proofs.YtjcegdldgjphiaaGreatDoor
open Go.RowKit Go.Shelf
attribute [local go_sem] Oper.semAt_some
theorem zgp:∀x:Nat,x≠0→x<2 ^ 64→1≤Lib.bitLen x∧x<2 ^ Lib.bitLen x:=by
 intro x
 induction x using Nat.strongRecOn with
 | _ x ih =>
  intro h0 h
  rw [Lib.bitLen_half x h0 h]
  by_cases h1:x / 2=0
  ·have hx:x=1:=by omega
   subst hx
   refine ⟨by omega,?_⟩
   rw [Nat.pow_add]
   have:0<2 ^ Lib.bitLen (1 / 2):=Nat.pow_pos (by omega)
   omega
  ·have:=ih (x / 2) (by omega) h1 (by omega)
   refine ⟨by omega,?_⟩
   rw [Nat.pow_add]
   omega
theorem zvq (x:Nat) (w:World) (h0:x≠0) (h:x<4294967296) :
  Calls Tryz.prog 120 #[.int .u32 x] w fun e w'=>(∃s:Nat,e=.returned (.int .i64 s)∧s≤31∧x<2 ^ (32 - s))∧w=w':=by
 have b:=zgp x h0 (by omega)
 have b2:=Lib.bitLen_le x 32 (by omega) (by omega)
 refine (Go.Proofs.Tryz.bits_LeadingZeros32 (x:Int) w (by omega) (by omega)).mono ?_
 rintro e w' ⟨rfl,rfl⟩
 refine ⟨⟨32 - Lib.bitLen x,?_,by omega,?_⟩,rfl⟩
 ·rw [Int.toNat_natCast,Int.ofNat_sub b2];rfl
 ·rw [Nat.sub_sub_self b2];exact b.2
def zgo (U V:Nat) (w:World) (e:Ending) (w':World):Prop:=
 ∃A n c A2 n2 c2,e=.returned (.tuple #[.slice A n c,.slice A2 n2 c2])∧Sl w' w'.heap.size A n c (digs (U / V))∧Sl w' w'.heap.size A2 n2 c2 (digs (U%V))∧Below w.heap.size w w'
theorem zpd {A A2:Option Addr} {n n2 c c2 B:Nat} {l m:List Nat} {w:World} (h:Sl w B A n c l) (h2:Sl w B A2 n2 c2 m) (hB:B≤w.heap.size) (hl:Canon l) (hm:Canon m) (hlt:nval l<nval m) :
  Calls Tryz.prog 99 #[.slice A n c,.slice A2 n2 c2] w (zgo (nval l) (nval m) w):=by
 have hc:=zaZ hlt
 have e1:Hid (nval l / nval m=0∧digs (nval l%nval m)=l):=⟨Nat.div_eq_of_lt hlt,by rw [Nat.mod_eq_of_lt hlt];exact (zbm hl).symm⟩
 have H:=Lib.hid (h.more hB)
 have H2:=Lib.hid (h2.more hB)
 clear h h2 hlt
 go_enter Tryz.func99,Tryz.ntmps99
 go_wp2_with (go_at_call 97;refine (zbM H.out H2.out (Nat.le_refl _) hl hm).mono ?_;rw [hc];rintro e w1 ⟨rfl,hb⟩)
 go_ret2
 exact ⟨_,_,_,_,_,_,rfl,by rw [e1.out.1,zx];exact Sl.none_,by rw [e1.out.2];exact (H.out.below hb).more hb.size,hb⟩
theorem zgw {a b:Nat} (h:b≤a):0≤cmpv a b:=by unfold cmpv;rw [if_neg (by omega)];split<;>omega
theorem zrt {A A2:Option Addr} {n n2 c c2 B:Nat} {l m:List Nat} {w:World} (h:Sl w B A n c l) (h2:Sl w B A2 n2 c2 m) (hB:B≤w.heap.size) (hl:Canon l) (hm:Canon m) (hn:n≤1000) (hge:nval m≤nval l) (hn2:n2=1) :
  Calls Tryz.prog 99 #[.slice A n c,.slice A2 n2 c2] w (zgo (nval l) (nval m) w):=by
 have hc:=zgw hge
 have H:=Lib.hid (h.more hB)
 have H2:=Lib.hid (h2.more hB)
 have hm1:Hid (m=[dg m 0]∧nval m=dg m 0∧0<dg m 0):=by
  have hl2:=h2.len.trans hn2
  match m,hl2 with
  | [x],_ =>
   refine ⟨rfl,by simp [nval,dg],?_⟩
   rcases Nat.eq_zero_or_pos (dg [x] 0) with h0 | h0
   ·exact absurd (show [x].getLast?=some 0 by simpa [dg] using h0) hm.2
   ·exact h0
 have h0:0<n2:=by omega
 have heq:((n2:Int) == 1)=true:=by simp;omega
 clear h h2 hge hn2
 go_enter Tryz.func99,Tryz.ntmps99
 go_wp2_with (go_at_call 97;refine (zbM H.out H2.out (Nat.le_refl _) hl hm).mono ?_;rintro e w1 ⟨rfl,hb⟩)
 obtain ⟨ad,hA2,hbl,hcell⟩:=(H2.out.below hb).at_ (k:=0) (by omega)
 have hdl:=dg_lt hm.1 0
 have hz:=hb.size
 subst hA2
 have hcell2:∀o,(w1.alloc o).cell? ad=some (.int .u32 (dg m 0:Nat)):=fun o=>(World.cell?_alloc_lt w1 o ad (by omega)).trans (by simpa [Addr.add] using hcell)
 clear hcell
 have hix:∀W,(Instr.indexAt 117 (.slice (some ad) n2 c2) (.int .i64 0)).run Tryz.prog W=.ok (.pointer (some ad)) W:=fun W=>by
  have h3:=run_indexAt_slice (P:=Tryz.prog) W 117 ad n2 c2 .i64 0 (by kernel_rfl)
  rw [h3,if_pos ⟨by omega,by omega⟩]
  have h4:(sizeOf (Tryz.prog.elem 117)).run Tryz.prog W=.ok 1 W:=by kernel_rfl
  rw [h4]
  rfl
 go_wp2_with fail
 simp only [hix]
 go_wp2_with (go_at_call 102;refine (ziC _ _ _ w.heap.size (dg m 0) l _ (Sl.below H.out (by go_grown)) (by first | (simp;omega) | omega) hn hm1.out.2.2 hdl).mono ?_;rintro e w2 ⟨A3,n3,c3,r,rfl,hr,hry,hs3,hb3⟩;clear hcell2;clear hix)
 have hD:DBk (w2.alloc (.cells #[.int .u32 (r:Nat)] 123)) w2.heap.size 123 [r]:=zI w2 _ _ rfl
 have hsl:=hD.sl (B:=w2.heap.size+1) (fun d hd=>by simp at hd;omega) (by omega) (by simp)
 have hlen:(trimL [r]).length≤1:=zco [r]
 have HV:=Lib.hid (hsl.val (v:=nval l%nval m) (by rw [hm1.out.2.1,← hr.out];simp [nval]))
 have hbw:Below w.heap.size w w2:=(hb.alloc hz _).trans (hb3.mono (by simp;omega))
 have hz2:=hbw.size
 have HD:=Lib.hid hsl
 have HQ:=Lib.hid (show Sl w2 w2.heap.size A3 n3 c3 (digs (nval l / nval m)) by rw [hm1.out.2.1];exact hs3)
 clear hD hsl hr hs3 hb3
 go_wp2_with (go_at_call 119;refine (zbj _ _ _ _ _ _ HD.out.1 HD.out.2.1 HD.out.2.2).mono ?_;rintro e w3 ⟨rfl,rfl⟩)
 go_ret2
 exact ⟨_,_,_,_,_,_,rfl,(HQ.out.below (by go_grown)).more (by simp),HV.out.more (by simp),hbw.alloc hz2 _⟩
end Go.Proofs.YtjcegdldgjphiaaGreatDoor
