/-
  Merged: RtRefX, RtRefP, RtT, RtA, RtB, RtC, RtD, RtE, RtF, RtG, RtH.
-/
import Derived.Test.YtjcegdldgjphiaaGreatDoorGaAM
import Derived.Lib.SlBytesRow
import Derived.Test.YtjcegdldgjphiaaGreatDoorGaAA
import Derived.Test.YtjcegdldgjphiaaGreatDoorGaAN
set_option linter.unusedSimpArgs false
set_option linter.unusedVariables false
set_option maxRecDepth 100000
namespace Go.Proofs.YtjcegdldgjphiaaGreatDoor
open Go.RowKit Go.Shelf
def PB (W:World) (g:Nat) (o:List Nat):Prop:=∃rest:List Value,W.heap[g]?=some (.cells (u32s o++rest).toArray 123 (0,0))
theorem PB.lt {W:World} {g:Nat} {o:List Nat} (h:PB W g o):g<W.heap.size:=by obtain ⟨r,h⟩:=h;exact qy h
theorem PB.cell {W:World} {g k:Nat} {o:List Nat} (h:PB W g o) (hk:k<o.length):W.cell? ⟨g,k,none⟩=some (.int .u32 (dg o k:Nat)):=by
 obtain ⟨r,h⟩:=h
 rw [qF h,zay hk]
 simp [u32s,hk,List.getElem?_append]
theorem PB.frozen {W:World} {g:Nat} {o:List Nat} (h:PB W g o) (k:Nat):W.frozen? ⟨g,k,none⟩=false:=by obtain ⟨r,h⟩:=h;exact q7 h
theorem PB.set {W:World} {g k d:Nat} {o:List Nat} (h:PB W g o) (hk:k<o.length):PB (W.setCell ⟨g,k,none⟩ (.int .u32 (d:Nat))) g (o.set k d):=by
 obtain ⟨r,h⟩:=h
 refine ⟨r,?_⟩
 simp only [World.setCell,Array.getElem?_modify,h,if_true,Option.map_some]
 congr 2
 apply Array.toList_inj.1
 simp [u32s,List.map_set,hk]
theorem PB.below {W W1:World} {g:Nat} {o:List Nat} (h:PB W g o) (hb:Below W.heap.size W W1):PB W1 g o:=by
 obtain ⟨r,h2⟩:=h
 exact ⟨r,(hb.block g (qy h2)).trans h2⟩
theorem PB.alloc_ {W:World} {g:Nat} {o:List Nat} (h:PB W g o) (x:Obj):PB (W.alloc x) g o:=h.below ((Below.refl _ _).alloc (Nat.le_refl _) x)
theorem PB.take {W:World} {g:Nat} {o:List Nat} (h:PB W g o) (k:Nat):PB W g (o.take k):=by
 obtain ⟨r,h⟩:=h
 refine ⟨u32s (o.drop k)++r,?_⟩
 rw [← List.append_assoc,show u32s (o.take k)++u32s (o.drop k)=u32s o by unfold u32s;rw [← List.map_append,List.take_append_drop]]
 exact h
theorem PB.trim {W:World} {g:Nat} {o:List Nat} (h:PB W g o) (hd:Dig o):PB W g (digs (nval o)):=by
 have:=h.take (trimL o).length
 rwa [zdC,zdB hd] at this
theorem PB.sl {W:World} {g c:Nat} {o:List Nat} (h:PB W g o) (hd:Dig o) (hc:o.length≤c) (hm:c≤9223372036854775807):Sl W W.heap.size (some ⟨g,0,none⟩) o.length c o:=by
 refine ⟨⟨⟨by simp [zR],fun _=>⟨_,rfl,h.lt,fun j u hu=>?_⟩⟩,hd⟩,hc,hm⟩
 have e:(⟨g,0,none⟩:Addr).add j=⟨g,j,none⟩:=by unfold Addr.add;split<;>simp [*]
 have hj:j<o.length:=by
  have:=(List.getElem?_eq_some_iff.1 hu).1
  rwa [zR] at this
 rw [e,h.cell hj,zhU hu hj,zay hj]
attribute [local go_sem] bapp
end Go.Proofs.YtjcegdldgjphiaaGreatDoor
namespace Go.Proofs.YtjcegdldgjphiaaGreatDoor
open Go.RowKit Go.Shelf
def HoldsS (u:Value) (W:World) (l:List Nat):Prop:=∃A n c,u=.slice A n c∧Sl W W.heap.size A n c l
theorem HoldsS.via {u:Value} {W W1:World} {l:List Nat} (h:HoldsS u W l) (hb:Below W.heap.size W W1):HoldsS u W1 l:=by
 obtain ⟨A,n,c,e,hs⟩:=h
 exact ⟨A,n,c,e,hs.via hb⟩
attribute [local go_sem] bapp
end Go.Proofs.YtjcegdldgjphiaaGreatDoor
namespace Go.Proofs.YtjcegdldgjphiaaGreatDoor
open Go.RowKit Go.Shelf
theorem zh6 {v:Nat} (h:v≠0):0<(dd v).length:=by rw [zdn h];simp
theorem zn7:∀v:Nat,v≠0→10 ^ ((dd v).length - 1)≤v:=by
 intro v
 induction v using Nat.strongRecOn with
 | _ v ih =>
  intro h
  rw [zdn h,List.length_append,List.length_singleton,Nat.add_sub_cancel]
  by_cases h2:v<10
  ·rw [show v / 10=0 by omega,zax];simp;omega
  ·have h3:v / 10≠0:=by omega
   have h4:=ih (v / 10) (by omega) h3
   have h5:=zh6 h3
   rw [show (dd (v / 10)).length=((dd (v / 10)).length - 1)+1 by omega,Nat.pow_succ]
   omega
theorem zh7 {v:Nat} (h:v<big):(Lib.decDigits v).length≤641:=by
 by_cases h0:v=0
 ·subst h0;rw [zcd];simp
 ·rw [zdm v h0]
  have h1:=zn7 v h0
  have h2:=Nat.lt_of_le_of_lt h1 (Nat.lt_trans h zgb)
  have:=(Nat.pow_lt_pow_iff_right (a:=10) (by decide)).1 h2
  omega
theorem zbr {neg:Bool} {l:List Nat} (hd:Dig l):(textS neg l).length≤642:=by
 unfold textS
 split
 ·rename_i h
  have h1:=zJ h hd
  have hb:nval l<big:=(qK h1.1).1 h1.2.1
  have h2:=zh7 hb
  cases neg
  ·rw [show sgn false (nval l)=(nval l:Int) from rfl,Lib.itoa,if_neg (by omega),Int.toNat_natCast];omega
  ·by_cases h0:nval l=0
   ·rw [h0,show sgn true 0=0 from rfl,Lib.itoa,if_neg (by omega),show (0:Int).toNat=0 from rfl,zcd];simp
   ·rw [show sgn true (nval l)=-(nval l:Int) from rfl,Lib.itoa,if_pos (by omega),Int.natAbs_neg,Int.natAbs_natCast,List.length_cons];omega
 ·simp
section
variable {K:Kit} {P:Program} {f:FuncId} {res:PSh}
theorem zmw {l:List Nat} {v:Value} {W:World} {D:Dat} (h:pD l v W D):Dig l:=by obtain ⟨_,_,_,_,hs⟩:=h;exact hs.dig
theorem zmr {x:RR} {v:Value} {W:World} {D:Dat} (h:(gR x).ok v W D):Dig x.1.2∧Dig x.2.2:=by
 obtain ⟨vs,_,h1⟩:=h
 match vs.toList,h1 with
 | [a,b,c,d],⟨_,h2,_,h4,_⟩=>exact ⟨zmw h2,zmw h4⟩
 | [],h=>exact h.elim
 | [_],h=>exact h.2.elim
 | [_,_],h=>exact h.2.2.elim
 | [_,_,_],h=>exact h.2.2.2.elim
 | _::_::_::_::_::_,h=>exact h.2.2.2.2.elim
theorem zk7 {x:RR} {r:List PSh} (h:Dig x.1.2→Dig x.2.2→Fun K P f (gR x::r) res):Fun K P f (gR x::r) res:=by
 intro W D vs hs hf
 match vs,hs with
 | v::us,hs=>exact h (zmr hs.1).1 (zmr hs.1).2 W D (v::us) hs hf
 | [],h=>exact h.elim
end
theorem gN_ok {x:Raw} {v:Value} {W:World} {D:Dat} (h:(gN x).ok v W D):∃A n c,v=.agg #[.bool x.1,.slice A n c]∧Sl W W.heap.size A n c x.2:=by
 obtain ⟨vs,rfl,h1⟩:=h
 match hv:vs.toList,h1 with
 | [a,b],⟨h1,h2,_⟩ =>
  obtain ⟨A,n,c,e,hs⟩:=h2
  have e1:a=.bool x.1:=h1
  exact ⟨A,n,c,by rw [← Array.toArray_toList (xs:=vs),hv,e1,e],hs⟩
 | [],h=>exact h.elim
 | [_],h=>exact h.2.elim
 | _::_::_::_,h=>exact h.2.2.elim
theorem Kept.of {K:Kit} {W W':World} {D:Dat} (hf:Fit K W D) (h:Below W.heap.size W W'):Kept W D W' D:=⟨h,fun _ h=>h,fun _ h=>.inl h,fun q hq=>Nat.lt_of_lt_of_le (hf.dlt q hq) h.size⟩
end Go.Proofs.YtjcegdldgjphiaaGreatDoor
namespace Go.Proofs.YtjcegdldgjphiaaGreatDoor
open Go.RowKit Go.Shelf
theorem zaL {p:Pred} {v:Value} {W:World} {D:Dat} (h:(PSh.t [.g [pV (.bool false),pV (.slice none 0 0),pV (.bool false),pV (.slice none 0 0)],.c p]).ok v W D):(PSh.t [.g (cN (rq none).1++cN (rq none).2),.c p]).ok v W D:=by
 obtain ⟨vs,e,h1⟩:=h
 refine ⟨vs,e,?_⟩
 match vs.toList,h1 with
 | [a,b],⟨h1,h2,_⟩=>exact ⟨zhZ h1,h2,trivial⟩
 | [],h=>exact h.elim
 | [_],h=>exact h.2.elim
 | _::_::_::_,h=>exact h.2.2.elim
def textR (x:RR):List UInt8:=if rrX x.1 x.2=true then (if cmpX x.2 (nz 1)=0 then textS x.1.1 x.1.2 else textS x.1.1 x.1.2++[47]++textS x.2.1 x.2.2) else []
theorem zib {w0:World} (x:RR) (hT:∀W,Below w0.heap.size w0 W→PowT w0.heap.size W) (v1:Bool) (v2:Bool) (e1:(rrX x.1 x.2)=v1) (e2:(!v1)=v2) (h3:v2=true):Fun (KN w0) Tryz.prog 47 [.o (.g [pB x.1.1,pD x.1.2,pB x.2.1,pD x.2.2])] (.o (.c (pV (.string ⟨#[]⟩)))):=
 zi (zl (F:=FL [pB x.1.1,pD x.1.2,pB x.2.1,pD x.2.2,pB v1,pB v2] []) (C:=[(1000003,.call ⟨46,[.o (.g [.h 0,.h 1,.h 2,.h 3])],[],.o (.c (.h 4)),[]⟩),
  (1000004,.un .not (LF (.h 4)) (LF (.h 5))),
  (10005,.fb 5 true)]) (k:=⟨47,[.o (.g [.h 0,.h 1,.h 2,.h 3])],[],.o (.c (.k (.string ⟨#[]⟩))),[]⟩) 0 (zf ⟨zb rfl,zj,zb rfl,zj,zb rfl,zb rfl,trivial⟩) ⟨ze (qq x v1 e1) rfl rfl rfl rfl,
  e_un (za rfl) (za rfl) (fun W=>by rw [← e2];exact r_not W),
  e_fb (show pV (.bool v2)=_ by rw [h3]),
  trivial⟩ mixed (by kernel_rfl)) rfl rfl rfl rfl
theorem zic {w0:World} (x:RR) (hT:∀W,Below w0.heap.size w0 W→PowT w0.heap.size W) (v1:Bool) (v2:Bool) (v4:Raw) (v5:Int) (v6:Bool) (v8:(List UInt8)) (e1:(rrX x.1 x.2)=v1) (e2:(!v1)=v2) (e4:(nz 1)=v4) (e5:(cmpX x.2 v4)=v5) (e6:((v5 == (0:Int)))=v6) (e8:(textS x.1.1 x.1.2)=v8) (h3:v2=false) (h7:v6=true):Fun (KN w0) Tryz.prog 47 [.o (.g [pB x.1.1,pD x.1.2,pB x.2.1,pD x.2.2])] (.o (.c (pS v8))):=
 zi (zl (F:=FL [pB x.1.1,pD x.1.2,pB x.2.1,pD x.2.2,pB v1,pB v2,pB v4.1,pD v4.2,pI v5,pB v6,pS v8] []) (C:=[(1000003,.call ⟨46,[.o (.g [.h 0,.h 1,.h 2,.h 3])],[],.o (.c (.h 4)),[]⟩),
  (1000004,.un .not (LF (.h 4)) (LF (.h 5))),
  (10005,.fb 5 false),
  (1000008,.call ⟨73,[],[],.o (.g [.h 6,.h 7]),[]⟩),
  (1000009,.call ⟨70,[.o (.g [.h 2,.h 3]),.o (.g [.h 6,.h 7])],[],.o (.c (.h 8)),[]⟩),
  (1000010,.bin .eql 3 (LF (.h 8)) (LF (.k (.int .i64 0))) (LF (.h 9))),
  (10009,.fb 9 true),
  (1000014,.call ⟨74,[.o (.g [.h 0,.h 1])],[],.o (.c (.h 10)),[]⟩)]) (k:=⟨47,[.o (.g [.h 0,.h 1,.h 2,.h 3])],[],.o (.c (.h 10)),[]⟩) 0 (zf ⟨zb rfl,zj,zb rfl,zj,zb rfl,zb rfl,zb rfl,zj,zb rfl,zb rfl,zb rfl,trivial⟩) ⟨ze (qq x v1 e1) rfl rfl rfl rfl,
  e_un (za rfl) (za rfl) (fun W=>by rw [← e2];exact r_not W),
  e_fb (show pV (.bool v2)=_ by rw [h3]),
  ze (f_one  v4 e4) rfl rfl rfl rfl,
  ze (f_cmp x.2 v4 v5 e5) rfl rfl rfl rfl,
  e_bin (za rfl) zd (za rfl) (r_cmp (congrArg some e6)),
  e_fb (show pV (.bool v6)=_ by rw [h7]),
  ze (zju hT x.1 v8 e8) rfl rfl rfl rfl,
  trivial⟩ mixed (by kernel_rfl)) rfl rfl rfl rfl
theorem zid {w0:World} (x:RR) (hT:∀W,Below w0.heap.size w0 W→PowT w0.heap.size W) (v1:Bool) (v2:Bool) (v4:Raw) (v5:Int) (v6:Bool) (v8:(List UInt8)) (v9:(List UInt8)) (v11:(List UInt8)) (v12:(List UInt8)) (e1:(rrX x.1 x.2)=v1) (e2:(!v1)=v2) (e4:(nz 1)=v4) (e5:(cmpX x.2 v4)=v5) (e6:((v5 == (0:Int)))=v6) (e8:(textS x.1.1 x.1.2)=v8) (e9:(v8++[47])=v9) (e11:(textS x.2.1 x.2.2)=v11) (e12:(v9++v11)=v12) (h3:v2=false) (h7:v6=false) (s10:(((v8:List UInt8).length+([47]:List UInt8).length:Nat):Int)≤9223372036854775807) (s13:(((v9:List UInt8).length+(v11:List UInt8).length:Nat):Int)≤9223372036854775807):Fun (KN w0) Tryz.prog 47 [.o (.g [pB x.1.1,pD x.1.2,pB x.2.1,pD x.2.2])] (.o (.c (pS v12))):=
 zi (zl (F:=FL [pB x.1.1,pD x.1.2,pB x.2.1,pD x.2.2,pB v1,pB v2,pB v4.1,pD v4.2,pI v5,pB v6,pS v8,pS v9,pS v11,pS v12] []) (C:=[(1000003,.call ⟨46,[.o (.g [.h 0,.h 1,.h 2,.h 3])],[],.o (.c (.h 4)),[]⟩),
  (1000004,.un .not (LF (.h 4)) (LF (.h 5))),
  (10005,.fb 5 false),
  (1000008,.call ⟨73,[],[],.o (.g [.h 6,.h 7]),[]⟩),
  (1000009,.call ⟨70,[.o (.g [.h 2,.h 3]),.o (.g [.h 6,.h 7])],[],.o (.c (.h 8)),[]⟩),
  (1000010,.bin .eql 3 (LF (.h 8)) (LF (.k (.int .i64 0))) (LF (.h 9))),
  (10009,.fb 9 false),
  (1000014,.call ⟨74,[.o (.g [.h 0,.h 1])],[],.o (.c (.h 10)),[]⟩),
  (1000015,.bin .add 9 (LF (.h 10)) (LF (.k (.string ⟨#[47]⟩))) (LF (.h 11))),
  (1000018,.call ⟨74,[.o (.g [.h 2,.h 3])],[],.o (.c (.h 12)),[]⟩),
  (1000019,.bin .add 9 (LF (.h 11)) (LF (.h 12)) (LF (.h 13)))]) (k:=⟨47,[.o (.g [.h 0,.h 1,.h 2,.h 3])],[],.o (.c (.h 13)),[]⟩) 0 (zf ⟨zb rfl,zj,zb rfl,zj,zb rfl,zb rfl,zb rfl,zj,zb rfl,zb rfl,zb rfl,zb rfl,zb rfl,zb rfl,trivial⟩) ⟨ze (qq x v1 e1) rfl rfl rfl rfl,
  e_un (za rfl) (za rfl) (fun W=>by rw [← e2];exact r_not W),
  e_fb (show pV (.bool v2)=_ by rw [h3]),
  ze (f_one  v4 e4) rfl rfl rfl rfl,
  ze (f_cmp x.2 v4 v5 e5) rfl rfl rfl rfl,
  e_bin (za rfl) zd (za rfl) (r_cmp (congrArg some e6)),
  e_fb (show pV (.bool v6)=_ by rw [h7]),
  ze (zju hT x.1 v8 e8) rfl rfl rfl rfl,
  e_bin (za rfl) zd (za rfl) (fun W X Y=>by rw [← e9];exact r_cat s10 W X Y),
  ze (zju hT x.2 v11 e11) rfl rfl rfl rfl,
  e_bin (za rfl) (za rfl) (za rfl) (fun W X Y=>by rw [← e12];exact r_cat s13 W X Y),
  trivial⟩ mixed (by kernel_rfl)) rfl rfl rfl rfl
theorem zcu {w0:World} (hT:∀W,Below w0.heap.size w0 W→PowT w0.heap.size W) (x:RR) (t:List UInt8) (ht:textR x=t):Fun (KN w0) Tryz.prog 47 [.o (.g [pB x.1.1,pD x.1.2,pB x.2.1,pD x.2.2])] (.o (.c (pS t))):=by
 refine zk7 fun d1 d2=>?_
 obtain ⟨v1,e1⟩:∃v,(rrX x.1 x.2)=v:=⟨_,rfl⟩
 obtain ⟨v2,e2⟩:∃v,(!v1)=v:=⟨_,rfl⟩
 cases h3:v2 with
 | true =>
  refine Fun.imp (zib x hT v1 v2 e1 e2 h3) (fun _ _ _ h=>h) (fun v W D h=>?_)
  have r0:t=[]:=by
   subst_vars
   simp_all [textR]
  rw [r0];exact h
 | false =>
  obtain ⟨v4,e4⟩:∃v,(nz 1)=v:=⟨_,rfl⟩
  obtain ⟨v5,e5⟩:∃v,(cmpX x.2 v4)=v:=⟨_,rfl⟩
  obtain ⟨v6,e6⟩:∃v,((v5 == (0:Int)))=v:=⟨_,rfl⟩
  cases h7:v6 with
  | true =>
   obtain ⟨v8,e8⟩:∃v,(textS x.1.1 x.1.2)=v:=⟨_,rfl⟩
   refine Fun.imp (zic x hT v1 v2 v4 v5 v6 v8 e1 e2 e4 e5 e6 e8 h3 h7) (fun _ _ _ h=>h) (fun v W D h=>?_)
   have r0:t=v8:=by
    subst_vars
    simp_all [textR]
   rw [r0];exact h
  | false =>
   obtain ⟨v8,e8⟩:∃v,(textS x.1.1 x.1.2)=v:=⟨_,rfl⟩
   obtain ⟨v9,e9⟩:∃v,(v8++[47])=v:=⟨_,rfl⟩
   have s10:(((v8:List UInt8).length+([47]:List UInt8).length:Nat):Int)≤9223372036854775807:=by subst_vars;have:=zbr (neg:=x.1.1) d1;have:=zbr (neg:=x.2.1) d2;simp only [List.length_append,List.length_cons,List.length_nil];omega
   obtain ⟨v11,e11⟩:∃v,(textS x.2.1 x.2.2)=v:=⟨_,rfl⟩
   obtain ⟨v12,e12⟩:∃v,(v9++v11)=v:=⟨_,rfl⟩
   have s13:(((v9:List UInt8).length+(v11:List UInt8).length:Nat):Int)≤9223372036854775807:=by subst_vars;have:=zbr (neg:=x.1.1) d1;have:=zbr (neg:=x.2.1) d2;simp only [List.length_append,List.length_cons,List.length_nil];omega
   refine Fun.imp (zid x hT v1 v2 v4 v5 v6 v8 v9 v11 v12 e1 e2 e4 e5 e6 e8 e9 e11 e12 h3 h7 s10 s13) (fun _ _ _ h=>h) (fun v W D h=>?_)
   have r0:t=v12:=by
    subst_vars
    simp_all [textR]
   rw [r0];exact h
end Go.Proofs.YtjcegdldgjphiaaGreatDoor
namespace Go.Proofs.YtjcegdldgjphiaaGreatDoor
open Go.RowKit Go.Shelf
structure rcmp_T where
 sg:Int
 n1:Raw
 d1:Raw
 n2:Raw
 d2:Raw
end Go.Proofs.YtjcegdldgjphiaaGreatDoor
namespace Go.Proofs.YtjcegdldgjphiaaGreatDoor
open Go.RowKit Go.Shelf
def pDP (d:Nat):Pred:=fun v W _=>∃ad:Addr,v=.pointer (some ad)∧W.cell? ad=some (.int .u32 (d:Int))
theorem zbG {w0:World} {d:Nat}:FineC (KN w0) (pDP d):=by
 constructor
 ·rintro v W W' D D' S hS hO _ ⟨ad,e,hc⟩
  refine ⟨ad,e,?_⟩
  have hlt:ad.block<W.heap.size:=by
   rcases Nat.lt_or_ge ad.block W.heap.size with hlt | hlt
   ·exact hlt
   ·simp only [World.cell?,Array.getElem?_eq_none hlt] at hc;cases hc
  have hn2:¬ S ad.block:=by
   intro hs
   obtain ⟨_,_,o,ho,hm⟩:=hS _ hs
   simp only [World.cell?,ho] at hc
   cases o with
   | cells cs T z =>
    simp only [ml,mlf,Bool.and_eq_true,List.all_eq_true] at hm
    have hmem:Value.int .u32 (d:Int)∈cs.toList:=by
     revert hc
     simp only
     split
     ·intro h1;cases h1
     ·intro h1;simpa using Array.mem_of_getElem? h1
    have:=hm.2 _ hmem
    cases this
   | _=>simp [ml,mlf] at hm
  have h2:=hO.block _ hlt hn2
  simp only [World.cell?,h2] at hc ⊢
  exact hc
 ·rintro v W D ⟨ad,e,_⟩
  rw [e];rfl
section
variable {K:Kit} {P:Program} {F:Fact}
theorem zaW {T R E:TypeId} {x o:Lf} {l:List Nat} (hT:P.underlying T=some (.slice E)) (hx:Says F x (pD l)) (ho:Gives F o (.int .i64 (l.length:Int))):Ent.sound K P F (.op (.len [T] R) [LF x] [] (LF o)):=by
 intro β W vs hs _ _
 match vs,hs with
 | [v],⟨h1,_⟩ =>
  obtain ⟨A,m,c,e,hs⟩:=(hx β v W).1 h1
  subst e
  refine ⟨.int .i64 (l.length:Int),?_,(ho β _ W).2 rfl⟩
  rw [hs.len]
  simp [Sig.sem,Builtin.len_,run_underlying hT,goInt]
 | [],h=>exact h.elim
 | _::_::_,h=>exact h.2.elim
theorem e_iaD {T E:TypeId} {x y o:Lf} {l:List Nat} {k:IntKind} {i:Int} {j d:Nat} (hT:P.underlying T=some (.slice E)) (hz:szOf P E=some 1) (hx:Says F x (pD l)) (hy:Gives F y (.int k i)) (hi:i=(j:Int)) (hd:l[j]?=some d) (ho:Says F o (pDP d)):Ent.sound K P F (.op (.ia T) [LF x,LF y] [] (LF o)):=by
 subst hi
 intro β W vs hs _ _
 match vs,hs with
 | [v,v2],⟨h1,h2,_⟩ =>
  have e2:v2=.int k (j:Int):=(hy β v2 W).1 h2
  subst e2
  obtain ⟨A,m,c,e,hs⟩:=(hx β v W).1 h1
  subst e
  have hj:j<m:=by rw [← hs.len];exact (List.getElem?_eq_some_iff.1 hd).1
  obtain ⟨ad,e3,_,hc⟩:=hs.at_ hj
  subst e3
  refine ⟨.pointer (some (ad.add j)),?_,(ho β _ W).2 ⟨ad.add j,rfl,?_⟩⟩
  ·simp only [Sig.sem,Instr.indexAt,Sem.run_bind,asIntOf,run_underlying hT,Result.andThen_ok,Sem.run_pure]
   rw [if_pos ⟨Int.natCast_nonneg j,Int.ofNat_lt.2 hj⟩,Sem.run_bind,zar hz,Result.andThen_ok,Int.toNat_natCast,Nat.mul_one];rfl
  ·rw [hc]
   have:dg l j=d:=by unfold dg;rw [List.getD_eq_getElem?_getD,hd];rfl
   rw [this]
 | [],h=>exact h.elim
 | [_],h=>exact h.2.elim
 | _::_::_::_,h=>exact h.2.2.elim
theorem e_ldD {T:TypeId} {x o:Lf} {d:Nat} (hA:aggOf P T=some false) (hx:Says F x (pDP d)) (ho:Gives F o (.int .u32 (d:Int))):Ent.sound K P F (.op (.ld T) [LF x] [] (LF o)):=by
 intro β W vs hs _ _
 match vs,hs with
 | [v],⟨h1,_⟩ =>
  obtain ⟨ad,e,hc⟩:=(hx β v W).1 h1
  subst e
  refine ⟨_,?_,(ho β _ W).2 rfl⟩
  simp only [Sig.sem,Instr.loadAt,Instr.sureAddr,Sem.run_bind,Sem.run_pure,Result.andThen_ok,loadVar,za1 hA]
  simp [run_load,hc]
 | [],h=>exact h.elim
 | _::_::_,h=>exact h.2.elim
end
end Go.Proofs.YtjcegdldgjphiaaGreatDoor
namespace Go.Proofs.YtjcegdldgjphiaaGreatDoor
open Go.RowKit Go.Shelf
theorem wr64 {n:Int} (h:-9223372036854775808≤n∧n≤9223372036854775807):IntKind.i64.wrap n=n:=by rw [IntKind.wrap_i64];omega
theorem zjd {a b:List Nat} (hl:a.length=b.length) (k:Nat) (hk:k≤a.length) (h:a.drop k≠b.drop k):k<a.length∧(a.getD k 0=b.getD k 0→a.drop (k+1)≠b.drop (k+1)):=by
 have hlt:k<a.length:=by
  rcases Nat.lt_or_ge k a.length with h2 | h2
  ·exact h2
  ·exact absurd (by rw [List.drop_of_length_le h2,List.drop_of_length_le (by omega)]) h
 refine ⟨hlt,fun he h2=>h ?_⟩
 rw [List.drop_eq_getElem_cons hlt,List.drop_eq_getElem_cons (by omega:k<b.length),h2]
 rw [List.getD_eq_getElem?_getD,List.getD_eq_getElem?_getD,List.getElem?_eq_getElem hlt,List.getElem?_eq_getElem (by omega:k<b.length)] at he
 simp only [Option.getD_some] at he
 rw [he]
structure snE_T where
 i:Int
def zaH:List Atom:=[.sl 0 (.o (.g [.h 0,.h 1])),.sl 1 (.o (.g [.h 2,.h 3])),.sl 2 (.o (.c (.p 0 0))),.sl 3 (.o (.c (.p 1 0))),.sl 5 (.o (.c (.h 8))),.sl 6 (.o (.c (.p 0 0))),.sl 7 (.o (.c (.h 0))),.sl 8 (.o (.c (.p 1 0))),.sl 9 (.o (.c (.h 2))),.sl 10 (.o (.c (.h 4))),.sl 11 (.o (.c (.h 4))),.sl 12 (.o (.c (.p 0 1))),.sl 13 (.o (.c (.h 1))),.sl 14 (.o (.c (.h 5))),.sl 15 (.o (.c (.p 1 1))),.sl 16 (.o (.c (.h 3))),.sl 17 (.o (.c (.h 6))),.sl 18 (.o (.c (.h 7))),.sl 19 (.o (.c (.h 7))),.bx 0 30 [.h 0,.h 1],.bx 1 30 [.h 2,.h 3]]
def snE_S:LoopS:=⟨4,[.sl 0 (.o (.g [.h 0,.h 1])),.sl 1 (.o (.g [.h 2,.h 3])),.sl 2 (.o (.c (.p 0 0))),.sl 3 (.o (.c (.p 1 0))),.sl 5 (.o (.c (.k (.int .i64 0)))),.sl 6 (.o (.c (.p 0 0))),.sl 7 (.o (.c (.h 0))),.sl 8 (.o (.c (.p 1 0))),.sl 9 (.o (.c (.h 2))),.sl 10 (.o (.c (.h 4))),.sl 11 (.o (.c (.h 4))),.sl 12 (.o (.c (.p 0 1))),.sl 13 (.o (.c (.h 1))),.sl 14 (.o (.c (.h 5))),.sl 15 (.o (.c (.p 1 1))),.sl 16 (.o (.c (.h 3))),.sl 17 (.o (.c (.h 6))),.sl 18 (.o (.c (.h 7))),.sl 19 (.o (.c (.h 7))),.bx 0 30 [.h 0,.h 1],.bx 1 30 [.h 2,.h 3]],(.x 0),[.sl 0 (.o (.g [.h 0,.h 1])),.sl 1 (.o (.g [.h 2,.h 3])),.sl 2 (.o (.c (.p 0 0))),.sl 3 (.o (.c (.p 1 0))),.sl 6 (.o (.c (.p 0 0))),.sl 7 (.o (.c (.h 0))),.sl 8 (.o (.c (.p 1 0))),.sl 9 (.o (.c (.h 2))),.sl 10 (.o (.c (.h 4))),.sl 11 (.o (.c (.h 4))),.sl 12 (.o (.c (.p 0 1))),.sl 13 (.o (.c (.h 1))),.sl 14 (.o (.c (.h 5))),.sl 15 (.o (.c (.p 1 1))),.sl 16 (.o (.c (.h 3))),.sl 17 (.o (.c (.h 6))),.sl 18 (.o (.c (.h 7))),.sl 19 (.o (.c (.h 7))),.bx 0 30 [.h 0,.h 1],.bx 1 30 [.h 2,.h 3]]⟩
theorem zoy {w0:World} (x:Raw) (y:Raw) (v1:Bool) (v3:Int) (v4:Int) (v5:Bool) (h2:v1=false) (h6:v5=false) (i:Int) (v501:Int) (v502:Bool) (n504:Nat) (x505:Nat) (n508:Nat) (x509:Nat) (v512:Bool) (v514:Int) (e501:((x.2.length:Int))=v501) (e502:(decide (i<v501))=v502) (e512:((((x505:Nat):Int) != ((x509:Nat):Int)))=v512) (e514:(IntKind.i64.wrap (i+(1:Int)))=v514) (h503:v502=true) (s506:i=(n504:Int)) (s507:x.2[n504]?=some x505) (s510:i=(n508:Int)) (s511:y.2[n508]?=some x509) (h513:v512=false) (i':Int) (q0:(v514)=i') (R:Frm) (hR:R.pm=⟨ntOf Tryz.prog 85,[],[]⟩):Goes (KN w0) Tryz.prog R (lp Tryz.prog 85 0) (FL [pB x.1,pD x.2,pB y.1,pD y.2,pB v1,pI v3,pI v4,pB v5,pI i] []) zaH .n (FL [pB x.1,pD x.2,pB y.1,pD y.2,pB v1,pI v3,pI v4,pB v5,pI i'] []) zaH:=
 goes (x:=.n) (y:=.n) (Fb:=FL [pB x.1,pD x.2,pB y.1,pD y.2,pB v1,pI v3,pI v4,pB v5,pI i,pI v501,pB v502,pDP x505,pDP x509,pB v512,pI v514] [] [(5000,pV (.int .u32 ((x505:Nat):Int))),(5001,pV (.int .u32 ((x509:Nat):Int)))]) (stb:=zaH) (tl:=[.sl 0 (.o (.g [.h 0,.h 1])),.sl 1 (.o (.g [.h 2,.h 3])),.sl 2 (.o (.c (.p 0 0))),.sl 3 (.o (.c (.p 1 0))),.sl 5 (.o (.c (.h 14))),.sl 6 (.o (.c (.p 0 0))),.sl 7 (.o (.c (.h 0))),.sl 8 (.o (.c (.p 1 0))),.sl 9 (.o (.c (.h 2))),.sl 10 (.o (.c (.h 4))),.sl 11 (.o (.c (.h 4))),.sl 12 (.o (.c (.p 0 1))),.sl 13 (.o (.c (.h 1))),.sl 14 (.o (.c (.h 5))),.sl 15 (.o (.c (.p 1 1))),.sl 16 (.o (.c (.h 3))),.sl 17 (.o (.c (.h 6))),.sl 18 (.o (.c (.h 7))),.sl 19 (.o (.c (.h 7))),.bx 0 30 [.h 0,.h 1],.bx 1 30 [.h 2,.h 3]]) (C:=((10004,.fb 4 false) ::
  (10007,.fb 7 false) ::
  (1005003,.op (.len [28] 3) [LF (.h 1)] [] (LF (.h 9))) ::
  (1005004,.bin .lss 3 (LF (.h 8)) (LF (.h 9)) (LF (.h 10))) ::
  (10010,.fb 10 true) ::
  (1005008,.op (.ia 28) [LF (.h 1),LF (.h 8)] [] (LF (.h 11))) ::
  (1005009,.op (.ld 123) [LF (.h 11)] [] (LF (.h 5000))) ::
  (1005013,.op (.ia 28) [LF (.h 3),LF (.h 8)] [] (LF (.h 12))) ::
  (1005014,.op (.ld 123) [LF (.h 12)] [] (LF (.h 5001))) ::
  (1005015,.bin .neq 123 (LF (.h 5000)) (LF (.h 5001)) (LF (.h 13))) ::
  (10013,.fb 13 false) ::
  (1005017,.bin .add 3 (LF (.h 8)) (LF (.k (.int .i64 1))) (LF (.h 14))) ::
  []:List (Nat×Ent))) (H:=.no) 5000 (zipA.imp ⟨z_g ⟨fun _ _ _ h=>h,fun _ _ _ h=>h,trivial⟩,z_g ⟨fun _ _ _ h=>h,fun _ _ _ h=>h,trivial⟩,z_c (fun _ _ _ h=>h),z_c (fun _ _ _ h=>h),z_c (fun _ _ _ h=>h),z_c (fun _ _ _ h=>h),z_c (fun _ _ _ h=>h),z_c (fun _ _ _ h=>h),z_c (fun _ _ _ h=>h),z_c (fun _ _ _ h=>h),z_c (fun _ _ _ h=>h),z_c (fun _ _ _ h=>h),z_c (fun _ _ _ h=>h),z_c (fun _ _ _ h=>h),z_c (fun _ _ _ h=>h),z_c (fun _ _ _ h=>h),z_c (fun _ _ _ h=>h),z_c (fun _ _ _ h=>h),z_c (fun _ _ _ h=>h),z_b ⟨fun _ _ _ h=>h,fun _ _ _ h=>h,trivial⟩,z_b ⟨fun _ _ _ h=>h,fun _ _ _ h=>h,trivial⟩,trivial⟩) (zf ⟨zb rfl,zj,zb rfl,zj,zb rfl,zb rfl,zb rfl,zb rfl,zb rfl,zb rfl,zb rfl,zbG,zbG,zb rfl,zb rfl,trivial⟩ trivial ⟨⟨rfl,zh⟩,⟨rfl,zh⟩,trivial⟩) ⟨e_fb (show pV (.bool v1)=_ by rw [h2]),
  e_fb (show pV (.bool v5)=_ by rw [h6]),
  zaW (E:=123) (by kernel_rfl) (zc rfl) (za (by rw [← e501];rfl)),
  e_bin (za rfl) (za rfl) (za rfl) (r_cmp (congrArg some e502)),
  e_fb (show pV (.bool v502)=_ by rw [h503]),
  e_iaD (E:=123) (by kernel_rfl) (by kernel_rfl) (zc rfl) (za rfl) s506 s507 (zc rfl),
  e_ldD (by kernel_rfl) (zc rfl) (za rfl),
  e_iaD (E:=123) (by kernel_rfl) (by kernel_rfl) (zc rfl) (za rfl) s510 s511 (zc rfl),
  e_ldD (by kernel_rfl) (zc rfl) (za rfl),
  e_bin (za rfl) (za rfl) (za rfl) (r_cmp (congrArg some e512)),
  e_fb (show pV (.bool v512)=_ by rw [h513]),
  e_bin (za rfl) zd (za rfl) (r_ar (congrArg some e514)),
  trivial⟩ mixed hR trivial (fun _ _ _ hs=>by cases hs) (by kernel_rfl:zz (KN w0) Tryz.prog _ .no ⟨ntOf Tryz.prog 85,[],[]⟩ (lp Tryz.prog 85 0) 5000 zaH .n [.sl 0 (.o (.g [.h 0,.h 1])),.sl 1 (.o (.g [.h 2,.h 3])),.sl 2 (.o (.c (.p 0 0))),.sl 3 (.o (.c (.p 1 0))),.sl 5 (.o (.c (.h 14))),.sl 6 (.o (.c (.p 0 0))),.sl 7 (.o (.c (.h 0))),.sl 8 (.o (.c (.p 1 0))),.sl 9 (.o (.c (.h 2))),.sl 10 (.o (.c (.h 4))),.sl 11 (.o (.c (.h 4))),.sl 12 (.o (.c (.p 0 1))),.sl 13 (.o (.c (.h 1))),.sl 14 (.o (.c (.h 5))),.sl 15 (.o (.c (.p 1 1))),.sl 16 (.o (.c (.h 3))),.sl 17 (.o (.c (.h 6))),.sl 18 (.o (.c (.h 7))),.sl 19 (.o (.c (.h 7))),.bx 0 30 [.h 0,.h 1],.bx 1 30 [.h 2,.h 3]]=true) rfl (zipA.imp ⟨z_g ⟨fun _ _ _ h=>h,fun _ _ _ h=>h,trivial⟩,z_g ⟨fun _ _ _ h=>h,fun _ _ _ h=>h,trivial⟩,z_c (fun _ _ _ h=>h),z_c (fun _ _ _ h=>h),z_c (fun β v W h=>(zc rfl β v W).2 (by rw [← q0];exact h)),z_c (fun _ _ _ h=>h),z_c (fun _ _ _ h=>h),z_c (fun _ _ _ h=>h),z_c (fun _ _ _ h=>h),z_c (fun _ _ _ h=>h),z_c (fun _ _ _ h=>h),z_c (fun _ _ _ h=>h),z_c (fun _ _ _ h=>h),z_c (fun _ _ _ h=>h),z_c (fun _ _ _ h=>h),z_c (fun _ _ _ h=>h),z_c (fun _ _ _ h=>h),z_c (fun _ _ _ h=>h),z_c (fun _ _ _ h=>h),z_b ⟨fun _ _ _ h=>h,fun _ _ _ h=>h,trivial⟩,z_b ⟨fun _ _ _ h=>h,fun _ _ _ h=>h,trivial⟩,trivial⟩)
theorem zoz {w0:World} (x:Raw) (y:Raw) (v1:Bool) (v3:Int) (v4:Int) (v5:Bool) (h2:v1=false) (h6:v5=false) (i:Int) (v501:Int) (v502:Bool) (e501:((x.2.length:Int))=v501) (e502:(decide (i<v501))=v502) (h503:v502=false) (F:Fact) (u0:F.c 0=pB x.1) (u1:F.c 1=pD x.2) (u2:F.c 2=pB y.1) (u3:F.c 3=pD y.2) (u4:F.c 4=pB v1) (u5:F.c 5=pI v3) (u6:F.c 6=pI v4) (u7:F.c 7=pB v5) (R:Frm) (hR:R.pm=⟨ntOf Tryz.prog 85,[],[]⟩):Goes (KN w0) Tryz.prog R (lp Tryz.prog 85 0) (FL [pB x.1,pD x.2,pB y.1,pD y.2,pB v1,pI v3,pI v4,pB v5,pI i] []) zaH (.x 0) F snE_S.out:=
 goes (x:=(.x 0)) (y:=(.x 0)) (Fb:=FL [pB x.1,pD x.2,pB y.1,pD y.2,pB v1,pI v3,pI v4,pB v5,pI i,pI v501,pB v502] []) (stb:=zaH) (tl:=[.sl 0 (.o (.g [.h 0,.h 1])),.sl 1 (.o (.g [.h 2,.h 3])),.sl 2 (.o (.c (.p 0 0))),.sl 3 (.o (.c (.p 1 0))),.sl 6 (.o (.c (.p 0 0))),.sl 7 (.o (.c (.h 0))),.sl 8 (.o (.c (.p 1 0))),.sl 9 (.o (.c (.h 2))),.sl 10 (.o (.c (.h 4))),.sl 11 (.o (.c (.h 4))),.sl 12 (.o (.c (.p 0 1))),.sl 13 (.o (.c (.h 1))),.sl 14 (.o (.c (.h 5))),.sl 15 (.o (.c (.p 1 1))),.sl 16 (.o (.c (.h 3))),.sl 17 (.o (.c (.h 6))),.sl 18 (.o (.c (.h 7))),.sl 19 (.o (.c (.h 7))),.bx 0 30 [.h 0,.h 1],.bx 1 30 [.h 2,.h 3]]) (C:=((10004,.fb 4 false) ::
  (10007,.fb 7 false) ::
  (1005003,.op (.len [28] 3) [LF (.h 1)] [] (LF (.h 9))) ::
  (1005004,.bin .lss 3 (LF (.h 8)) (LF (.h 9)) (LF (.h 10))) ::
  (10010,.fb 10 false) ::
  []:List (Nat×Ent))) (H:=.no) 5000 (zipA.imp ⟨z_g ⟨fun _ _ _ h=>h,fun _ _ _ h=>h,trivial⟩,z_g ⟨fun _ _ _ h=>h,fun _ _ _ h=>h,trivial⟩,z_c (fun _ _ _ h=>h),z_c (fun _ _ _ h=>h),z_c (fun _ _ _ h=>h),z_c (fun _ _ _ h=>h),z_c (fun _ _ _ h=>h),z_c (fun _ _ _ h=>h),z_c (fun _ _ _ h=>h),z_c (fun _ _ _ h=>h),z_c (fun _ _ _ h=>h),z_c (fun _ _ _ h=>h),z_c (fun _ _ _ h=>h),z_c (fun _ _ _ h=>h),z_c (fun _ _ _ h=>h),z_c (fun _ _ _ h=>h),z_c (fun _ _ _ h=>h),z_c (fun _ _ _ h=>h),z_c (fun _ _ _ h=>h),z_b ⟨fun _ _ _ h=>h,fun _ _ _ h=>h,trivial⟩,z_b ⟨fun _ _ _ h=>h,fun _ _ _ h=>h,trivial⟩,trivial⟩) (zf ⟨zb rfl,zj,zb rfl,zj,zb rfl,zb rfl,zb rfl,zb rfl,zb rfl,zb rfl,zb rfl,trivial⟩) ⟨e_fb (show pV (.bool v1)=_ by rw [h2]),
  e_fb (show pV (.bool v5)=_ by rw [h6]),
  zaW (E:=123) (by kernel_rfl) (zc rfl) (za (by rw [← e501];rfl)),
  e_bin (za rfl) (za rfl) (za rfl) (r_cmp (congrArg some e502)),
  e_fb (show pV (.bool v502)=_ by rw [h503]),
  trivial⟩ mixed hR trivial (fun _ _ _ hs=>by cases hs) (by kernel_rfl:zz (KN w0) Tryz.prog _ .no ⟨ntOf Tryz.prog 85,[],[]⟩ (lp Tryz.prog 85 0) 5000 zaH (.x 0) [.sl 0 (.o (.g [.h 0,.h 1])),.sl 1 (.o (.g [.h 2,.h 3])),.sl 2 (.o (.c (.p 0 0))),.sl 3 (.o (.c (.p 1 0))),.sl 6 (.o (.c (.p 0 0))),.sl 7 (.o (.c (.h 0))),.sl 8 (.o (.c (.p 1 0))),.sl 9 (.o (.c (.h 2))),.sl 10 (.o (.c (.h 4))),.sl 11 (.o (.c (.h 4))),.sl 12 (.o (.c (.p 0 1))),.sl 13 (.o (.c (.h 1))),.sl 14 (.o (.c (.h 5))),.sl 15 (.o (.c (.p 1 1))),.sl 16 (.o (.c (.h 3))),.sl 17 (.o (.c (.h 6))),.sl 18 (.o (.c (.h 7))),.sl 19 (.o (.c (.h 7))),.bx 0 30 [.h 0,.h 1],.bx 1 30 [.h 2,.h 3]]=true) rfl (zipA.imp ⟨z_g ⟨fun β v W h=>(zc u0 β v W).2 h,fun β v W h=>(zc u1 β v W).2 h,trivial⟩,z_g ⟨fun β v W h=>(zc u2 β v W).2 h,fun β v W h=>(zc u3 β v W).2 h,trivial⟩,z_c (fun _ _ _ h=>h),z_c (fun _ _ _ h=>h),z_c (fun _ _ _ h=>h),z_c (fun β v W h=>(zc u0 β v W).2 h),z_c (fun _ _ _ h=>h),z_c (fun β v W h=>(zc u2 β v W).2 h),z_c (fun β v W h=>(zc u4 β v W).2 h),z_c (fun β v W h=>(zc u4 β v W).2 h),z_c (fun _ _ _ h=>h),z_c (fun β v W h=>(zc u1 β v W).2 h),z_c (fun β v W h=>(zc u5 β v W).2 h),z_c (fun _ _ _ h=>h),z_c (fun β v W h=>(zc u3 β v W).2 h),z_c (fun β v W h=>(zc u6 β v W).2 h),z_c (fun β v W h=>(zc u7 β v W).2 h),z_c (fun β v W h=>(zc u7 β v W).2 h),z_b ⟨fun β v W h=>(zc u0 β v W).2 h,fun β v W h=>(zc u1 β v W).2 h,trivial⟩,z_b ⟨fun β v W h=>(zc u2 β v W).2 h,fun β v W h=>(zc u3 β v W).2 h,trivial⟩,trivial⟩)
def snE_X (x:Raw) (y:Raw) (v1:Bool) (v3:Int) (v4:Int) (v5:Bool) (t:snE_T):Prop:=(∃(v501:Int),∃(v502:Bool),(((x.2.length:Int))=v501)∧((decide (t.i<v501))=v502)∧(v502=false)∧True)
def snE_N (x:Raw) (y:Raw) (v1:Bool) (v3:Int) (v4:Int) (v5:Bool) (t t':snE_T):Prop:=(∃(v501:Int),∃(v502:Bool),∃(n504:Nat),∃(x505:Nat),∃(n508:Nat),∃(x509:Nat),∃(v512:Bool),∃(v514:Int),(((x.2.length:Int))=v501)∧((decide (t.i<v501))=v502)∧(((((x505:Nat):Int) != ((x509:Nat):Int)))=v512)∧((IntKind.i64.wrap (t.i+(1:Int)))=v514)∧(v502=true)∧(t.i=(n504:Int))∧(x.2[n504]?=some x505)∧(t.i=(n508:Int))∧(y.2[n508]?=some x509)∧(v512=false)∧((v514)=t'.i)∧True)
theorem zlM {w0:World} (x:Raw) (y:Raw) (v1:Bool) (v3:Int) (v4:Int) (v5:Bool) (h2:v1=false) (h6:v5=false) {F:Fact} (u0:F.c 0=pB x.1) (u1:F.c 1=pD x.2) (u2:F.c 2=pB y.1) (u3:F.c 3=pD y.2) (u4:F.c 4=pB v1) (u5:F.c 5=pI v3) (u6:F.c 6=pI v4) (u7:F.c 7=pB v5) (R:Frm) (hR:R.pm=⟨ntOf Tryz.prog 85,[],[]⟩) (J:snE_T→Prop) (m:snE_T→Nat) (hJ:J { i:=(0:Int) }) (rounds:∀t,J t→snE_X x y v1 v3 v4 v5 t ∨∃t',snE_N x y v1 v3 v4 v5 t t'∧m t'<m t∧J t'):zg (KN w0) Tryz.prog F R snE_S (lp Tryz.prog 85 0):=by
 refine zP (T:=snE_T) (fun t=>FL [pB x.1,pD x.2,pB y.1,pD y.2,pB v1,pI v3,pI v4,pB v5,pI t.i] []) J m { i:=(0:Int) } zaH hJ (zipA.imp ⟨z_g ⟨fun β v W h=>(zc u0 β v W).1 h,fun β v W h=>(zc u1 β v W).1 h,trivial⟩,z_g ⟨fun β v W h=>(zc u2 β v W).1 h,fun β v W h=>(zc u3 β v W).1 h,trivial⟩,z_c (fun _ _ _ h=>h),z_c (fun _ _ _ h=>h),z_c (fun _ _ _ h=>h),z_c (fun _ _ _ h=>h),z_c (fun β v W h=>(zc u0 β v W).1 h),z_c (fun _ _ _ h=>h),z_c (fun β v W h=>(zc u2 β v W).1 h),z_c (fun β v W h=>(zc u4 β v W).1 h),z_c (fun β v W h=>(zc u4 β v W).1 h),z_c (fun _ _ _ h=>h),z_c (fun β v W h=>(zc u1 β v W).1 h),z_c (fun β v W h=>(zc u5 β v W).1 h),z_c (fun _ _ _ h=>h),z_c (fun β v W h=>(zc u3 β v W).1 h),z_c (fun β v W h=>(zc u6 β v W).1 h),z_c (fun β v W h=>(zc u7 β v W).1 h),z_c (fun β v W h=>(zc u7 β v W).1 h),z_b ⟨fun β v W h=>(zc u0 β v W).1 h,fun β v W h=>(zc u1 β v W).1 h,trivial⟩,z_b ⟨fun β v W h=>(zc u2 β v W).1 h,fun β v W h=>(zc u3 β v W).1 h,trivial⟩,trivial⟩) rfl fun t ht=>?_
 rcases rounds t ht with hz_ | ⟨t',hz_,hm_,hj_⟩
 ·refine .inl ?_
  rcases hz_ with ⟨v501,v502,e501,e502,h503,_⟩
  ·exact zoz  x y v1 v3 v4 v5 h2 h6 t.i v501 v502 e501 e502 h503  F u0 u1 u2 u3 u4 u5 u6 u7  R hR
 ·refine .inr ⟨t',hm_,hj_,?_⟩
  rcases hz_ with ⟨v501,v502,n504,x505,n508,x509,v512,v514,e501,e502,e512,e514,h503,s506,s507,s510,s511,h513,q0,_⟩
  ·exact zoy  x y v1 v3 v4 v5 h2 h6 t.i v501 v502 n504 x505 n508 x509 v512 v514 e501 e502 e512 e514 h503 s506 s507 s510 s511 h513 t'.i q0 R hR
theorem zox {w0:World} (x:Raw) (y:Raw) (v1:Bool) (v3:Int) (v4:Int) (v5:Bool) (h2:v1=false) (h6:v5=false) {F:Fact} (u0:F.c 0=pB x.1) (u1:F.c 1=pD x.2) (u2:F.c 2=pB y.1) (u3:F.c 3=pD y.2) (u4:F.c 4=pB v1) (u5:F.c 5=pI v3) (u6:F.c 6=pI v4) (u7:F.c 7=pB v5) (R:Frm) (hR:R.pm=⟨ntOf Tryz.prog 85,[],[]⟩) (hl:x.2.length=y.2.length) (hb:x.2.length≤9223372036854775807) (he:x.2=y.2):zg (KN w0) Tryz.prog F R snE_S (lp Tryz.prog 85 0):=by
 refine zlM  x y v1 v3 v4 v5 h2 h6  u0 u1 u2 u3 u4 u5 u6 u7 R hR (fun ⟨i⟩=>∃n:Nat,i=(n:Int)∧n≤x.2.length) (fun ⟨i⟩=>(x.2.length - i).toNat) ⟨0,rfl,Nat.zero_le _⟩ fun t hJ=>?_
 obtain ⟨i⟩:=t
 dsimp only at hJ
 obtain ⟨n,hi,hn⟩:=hJ
 obtain ⟨v501,e501⟩:∃v,((x.2.length:Int))=v:=⟨_,rfl⟩
 obtain ⟨v502,e502⟩:∃v,(decide (i<v501))=v:=⟨_,rfl⟩
 cases h503:v502 with
 | true =>
  obtain ⟨n504,x505,s506,s507⟩:∃(n504:Nat) (x505:Nat),i=(n504:Int)∧x.2[n504]?=some x505:=by (have hlt:n<x.2.length:=(by subst e501;subst e502;have:=of_decide_eq_true h503;omega);exact ⟨n,x.2[n],hi,List.getElem?_eq_getElem hlt⟩)
  obtain ⟨n508,x509,s510,s511⟩:∃(n508:Nat) (x509:Nat),i=(n508:Int)∧y.2[n508]?=some x509:=by (have hlt:n<x.2.length:=(by subst e501;subst e502;have:=of_decide_eq_true h503;omega);have hl2:n<y.2.length:=(by omega);exact ⟨n,y.2[n],hi,List.getElem?_eq_getElem hl2⟩)
  obtain ⟨v512,e512⟩:∃v,((((x505:Nat):Int) != ((x509:Nat):Int)))=v:=⟨_,rfl⟩
  cases h513:v512 with
  | true =>
   exfalso
   have e:n504=n508:=by omega
   subst e
   rw [he,s511] at s507
   injection s507 with s507
   subst s507;subst e512;simp at h513
  | false =>
   obtain ⟨v514,e514⟩:∃v,(IntKind.i64.wrap (i+(1:Int)))=v:=⟨_,rfl⟩
   refine .inr ⟨⟨v514⟩,⟨v501,v502,n504,x505,n508,x509,v512,v514,e501,e502,e512,e514,h503,s506,s507,s510,s511,h513,rfl,trivial⟩,?_,?_⟩
   all_goals (subst e501;subst e502;have hlt:=of_decide_eq_true h503;subst hi;have hw:IntKind.i64.wrap ((n:Int)+1)=((n+1:Nat):Int):=wr64 (by omega);rw [hw] at e514;subst e514)
   ·show ((x.2.length:Int) - ((n+1:Nat):Int)).toNat<((x.2.length:Int) - (n:Int)).toNat
    omega
   ·exact ⟨n+1,rfl,by omega⟩
 | false =>
  refine .inl (⟨v501,v502,e501,e502,h503,trivial⟩)
structure snR_T where
 i:Int
def zaI:List Atom:=[.sl 0 (.o (.g [.h 0,.h 1])),.sl 1 (.o (.g [.h 2,.h 3])),.sl 2 (.o (.c (.p 0 0))),.sl 3 (.o (.c (.p 1 0))),.sl 5 (.o (.c (.h 8))),.sl 6 (.o (.c (.p 0 0))),.sl 7 (.o (.c (.h 0))),.sl 8 (.o (.c (.p 1 0))),.sl 9 (.o (.c (.h 2))),.sl 10 (.o (.c (.h 4))),.sl 11 (.o (.c (.h 4))),.sl 12 (.o (.c (.p 0 1))),.sl 13 (.o (.c (.h 1))),.sl 14 (.o (.c (.h 5))),.sl 15 (.o (.c (.p 1 1))),.sl 16 (.o (.c (.h 3))),.sl 17 (.o (.c (.h 6))),.sl 18 (.o (.c (.h 7))),.sl 19 (.o (.c (.h 7))),.bx 0 30 [.h 0,.h 1],.bx 1 30 [.h 2,.h 3]]
def snR_S:LoopS:=⟨4,[.sl 0 (.o (.g [.h 0,.h 1])),.sl 1 (.o (.g [.h 2,.h 3])),.sl 2 (.o (.c (.p 0 0))),.sl 3 (.o (.c (.p 1 0))),.sl 5 (.o (.c (.k (.int .i64 0)))),.sl 6 (.o (.c (.p 0 0))),.sl 7 (.o (.c (.h 0))),.sl 8 (.o (.c (.p 1 0))),.sl 9 (.o (.c (.h 2))),.sl 10 (.o (.c (.h 4))),.sl 11 (.o (.c (.h 4))),.sl 12 (.o (.c (.p 0 1))),.sl 13 (.o (.c (.h 1))),.sl 14 (.o (.c (.h 5))),.sl 15 (.o (.c (.p 1 1))),.sl 16 (.o (.c (.h 3))),.sl 17 (.o (.c (.h 6))),.sl 18 (.o (.c (.h 7))),.sl 19 (.o (.c (.h 7))),.bx 0 30 [.h 0,.h 1],.bx 1 30 [.h 2,.h 3]],.r,[.sl 0 (.o (.g [.h 0,.h 1])),.sl 1 (.o (.g [.h 2,.h 3])),.sl 2 (.o (.c (.p 0 0))),.sl 3 (.o (.c (.p 1 0))),.sl 4 (.o (.c (.h 8))),.sl 6 (.o (.c (.p 0 0))),.sl 7 (.o (.c (.h 0))),.sl 8 (.o (.c (.p 1 0))),.sl 9 (.o (.c (.h 2))),.sl 10 (.o (.c (.h 4))),.sl 11 (.o (.c (.h 4))),.sl 12 (.o (.c (.p 0 1))),.sl 13 (.o (.c (.h 1))),.sl 14 (.o (.c (.h 5))),.sl 15 (.o (.c (.p 1 1))),.sl 16 (.o (.c (.h 3))),.sl 17 (.o (.c (.h 6))),.sl 18 (.o (.c (.h 7))),.sl 19 (.o (.c (.h 7))),.bx 0 30 [.h 0,.h 1],.bx 1 30 [.h 2,.h 3]]⟩
theorem zoB {w0:World} (x:Raw) (y:Raw) (v1:Bool) (v3:Int) (v4:Int) (v5:Bool) (h2:v1=false) (h6:v5=false) (i:Int) (v501:Int) (v502:Bool) (n504:Nat) (x505:Nat) (n508:Nat) (x509:Nat) (v512:Bool) (e501:((x.2.length:Int))=v501) (e502:(decide (i<v501))=v502) (e512:((((x505:Nat):Int) != ((x509:Nat):Int)))=v512) (h503:v502=true) (s506:i=(n504:Int)) (s507:x.2[n504]?=some x505) (s510:i=(n508:Int)) (s511:y.2[n508]?=some x509) (h513:v512=true) (o4:Bool) (F:Fact) (u0:F.c 0=pB x.1) (u1:F.c 1=pD x.2) (u2:F.c 2=pB y.1) (u3:F.c 3=pD y.2) (u4:F.c 4=pB v1) (u5:F.c 5=pI v3) (u6:F.c 6=pI v4) (u7:F.c 7=pB v5) (u8:F.c 8=pB o4) (q0:(false)=o4) (R:Frm) (hR:R.pm=⟨ntOf Tryz.prog 85,[],[]⟩):Goes (KN w0) Tryz.prog R (lp Tryz.prog 85 0) (FL [pB x.1,pD x.2,pB y.1,pD y.2,pB v1,pI v3,pI v4,pB v5,pI i] []) zaI .r F snR_S.out:=
 goes (x:=.r) (y:=.r) (Fb:=FL [pB x.1,pD x.2,pB y.1,pD y.2,pB v1,pI v3,pI v4,pB v5,pI i,pI v501,pB v502,pDP x505,pDP x509,pB v512] [] [(5000,pV (.int .u32 ((x505:Nat):Int))),(5001,pV (.int .u32 ((x509:Nat):Int)))]) (stb:=zaI) (tl:=[.sl 0 (.o (.g [.h 0,.h 1])),.sl 1 (.o (.g [.h 2,.h 3])),.sl 2 (.o (.c (.p 0 0))),.sl 3 (.o (.c (.p 1 0))),.sl 4 (.o (.c (.k (.bool false)))),.sl 6 (.o (.c (.p 0 0))),.sl 7 (.o (.c (.h 0))),.sl 8 (.o (.c (.p 1 0))),.sl 9 (.o (.c (.h 2))),.sl 10 (.o (.c (.h 4))),.sl 11 (.o (.c (.h 4))),.sl 12 (.o (.c (.p 0 1))),.sl 13 (.o (.c (.h 1))),.sl 14 (.o (.c (.h 5))),.sl 15 (.o (.c (.p 1 1))),.sl 16 (.o (.c (.h 3))),.sl 17 (.o (.c (.h 6))),.sl 18 (.o (.c (.h 7))),.sl 19 (.o (.c (.h 7))),.bx 0 30 [.h 0,.h 1],.bx 1 30 [.h 2,.h 3]]) (C:=((10004,.fb 4 false) ::
  (10007,.fb 7 false) ::
  (1005003,.op (.len [28] 3) [LF (.h 1)] [] (LF (.h 9))) ::
  (1005004,.bin .lss 3 (LF (.h 8)) (LF (.h 9)) (LF (.h 10))) ::
  (10010,.fb 10 true) ::
  (1005008,.op (.ia 28) [LF (.h 1),LF (.h 8)] [] (LF (.h 11))) ::
  (1005009,.op (.ld 123) [LF (.h 11)] [] (LF (.h 5000))) ::
  (1005013,.op (.ia 28) [LF (.h 3),LF (.h 8)] [] (LF (.h 12))) ::
  (1005014,.op (.ld 123) [LF (.h 12)] [] (LF (.h 5001))) ::
  (1005015,.bin .neq 123 (LF (.h 5000)) (LF (.h 5001)) (LF (.h 13))) ::
  (10013,.fb 13 true) ::
  []:List (Nat×Ent))) (H:=.no) 5000 (zipA.imp ⟨z_g ⟨fun _ _ _ h=>h,fun _ _ _ h=>h,trivial⟩,z_g ⟨fun _ _ _ h=>h,fun _ _ _ h=>h,trivial⟩,z_c (fun _ _ _ h=>h),z_c (fun _ _ _ h=>h),z_c (fun _ _ _ h=>h),z_c (fun _ _ _ h=>h),z_c (fun _ _ _ h=>h),z_c (fun _ _ _ h=>h),z_c (fun _ _ _ h=>h),z_c (fun _ _ _ h=>h),z_c (fun _ _ _ h=>h),z_c (fun _ _ _ h=>h),z_c (fun _ _ _ h=>h),z_c (fun _ _ _ h=>h),z_c (fun _ _ _ h=>h),z_c (fun _ _ _ h=>h),z_c (fun _ _ _ h=>h),z_c (fun _ _ _ h=>h),z_c (fun _ _ _ h=>h),z_b ⟨fun _ _ _ h=>h,fun _ _ _ h=>h,trivial⟩,z_b ⟨fun _ _ _ h=>h,fun _ _ _ h=>h,trivial⟩,trivial⟩) (zf ⟨zb rfl,zj,zb rfl,zj,zb rfl,zb rfl,zb rfl,zb rfl,zb rfl,zb rfl,zb rfl,zbG,zbG,zb rfl,trivial⟩ trivial ⟨⟨rfl,zh⟩,⟨rfl,zh⟩,trivial⟩) ⟨e_fb (show pV (.bool v1)=_ by rw [h2]),
  e_fb (show pV (.bool v5)=_ by rw [h6]),
  zaW (E:=123) (by kernel_rfl) (zc rfl) (za (by rw [← e501];rfl)),
  e_bin (za rfl) (za rfl) (za rfl) (r_cmp (congrArg some e502)),
  e_fb (show pV (.bool v502)=_ by rw [h503]),
  e_iaD (E:=123) (by kernel_rfl) (by kernel_rfl) (zc rfl) (za rfl) s506 s507 (zc rfl),
  e_ldD (by kernel_rfl) (zc rfl) (za rfl),
  e_iaD (E:=123) (by kernel_rfl) (by kernel_rfl) (zc rfl) (za rfl) s510 s511 (zc rfl),
  e_ldD (by kernel_rfl) (zc rfl) (za rfl),
  e_bin (za rfl) (za rfl) (za rfl) (r_cmp (congrArg some e512)),
  e_fb (show pV (.bool v512)=_ by rw [h513]),
  trivial⟩ mixed hR trivial (fun _ _ _ hs=>by cases hs) (by kernel_rfl:zz (KN w0) Tryz.prog _ .no ⟨ntOf Tryz.prog 85,[],[]⟩ (lp Tryz.prog 85 0) 5000 zaI .r [.sl 0 (.o (.g [.h 0,.h 1])),.sl 1 (.o (.g [.h 2,.h 3])),.sl 2 (.o (.c (.p 0 0))),.sl 3 (.o (.c (.p 1 0))),.sl 4 (.o (.c (.k (.bool false)))),.sl 6 (.o (.c (.p 0 0))),.sl 7 (.o (.c (.h 0))),.sl 8 (.o (.c (.p 1 0))),.sl 9 (.o (.c (.h 2))),.sl 10 (.o (.c (.h 4))),.sl 11 (.o (.c (.h 4))),.sl 12 (.o (.c (.p 0 1))),.sl 13 (.o (.c (.h 1))),.sl 14 (.o (.c (.h 5))),.sl 15 (.o (.c (.p 1 1))),.sl 16 (.o (.c (.h 3))),.sl 17 (.o (.c (.h 6))),.sl 18 (.o (.c (.h 7))),.sl 19 (.o (.c (.h 7))),.bx 0 30 [.h 0,.h 1],.bx 1 30 [.h 2,.h 3]]=true) rfl (zipA.imp ⟨z_g ⟨fun β v W h=>(zc u0 β v W).2 h,fun β v W h=>(zc u1 β v W).2 h,trivial⟩,z_g ⟨fun β v W h=>(zc u2 β v W).2 h,fun β v W h=>(zc u3 β v W).2 h,trivial⟩,z_c (fun _ _ _ h=>h),z_c (fun _ _ _ h=>h),z_c (fun β v W h=>(zc u8 β v W).2 (by rw [← q0];exact h)),z_c (fun _ _ _ h=>h),z_c (fun β v W h=>(zc u0 β v W).2 h),z_c (fun _ _ _ h=>h),z_c (fun β v W h=>(zc u2 β v W).2 h),z_c (fun β v W h=>(zc u4 β v W).2 h),z_c (fun β v W h=>(zc u4 β v W).2 h),z_c (fun _ _ _ h=>h),z_c (fun β v W h=>(zc u1 β v W).2 h),z_c (fun β v W h=>(zc u5 β v W).2 h),z_c (fun _ _ _ h=>h),z_c (fun β v W h=>(zc u3 β v W).2 h),z_c (fun β v W h=>(zc u6 β v W).2 h),z_c (fun β v W h=>(zc u7 β v W).2 h),z_c (fun β v W h=>(zc u7 β v W).2 h),z_b ⟨fun β v W h=>(zc u0 β v W).2 h,fun β v W h=>(zc u1 β v W).2 h,trivial⟩,z_b ⟨fun β v W h=>(zc u2 β v W).2 h,fun β v W h=>(zc u3 β v W).2 h,trivial⟩,trivial⟩)
theorem zoC {w0:World} (x:Raw) (y:Raw) (v1:Bool) (v3:Int) (v4:Int) (v5:Bool) (h2:v1=false) (h6:v5=false) (i:Int) (v501:Int) (v502:Bool) (n504:Nat) (x505:Nat) (n508:Nat) (x509:Nat) (v512:Bool) (v514:Int) (e501:((x.2.length:Int))=v501) (e502:(decide (i<v501))=v502) (e512:((((x505:Nat):Int) != ((x509:Nat):Int)))=v512) (e514:(IntKind.i64.wrap (i+(1:Int)))=v514) (h503:v502=true) (s506:i=(n504:Int)) (s507:x.2[n504]?=some x505) (s510:i=(n508:Int)) (s511:y.2[n508]?=some x509) (h513:v512=false) (i':Int) (q0:(v514)=i') (R:Frm) (hR:R.pm=⟨ntOf Tryz.prog 85,[],[]⟩):Goes (KN w0) Tryz.prog R (lp Tryz.prog 85 0) (FL [pB x.1,pD x.2,pB y.1,pD y.2,pB v1,pI v3,pI v4,pB v5,pI i] []) zaI .n (FL [pB x.1,pD x.2,pB y.1,pD y.2,pB v1,pI v3,pI v4,pB v5,pI i'] []) zaI:=
 goes (x:=.n) (y:=.n) (Fb:=FL [pB x.1,pD x.2,pB y.1,pD y.2,pB v1,pI v3,pI v4,pB v5,pI i,pI v501,pB v502,pDP x505,pDP x509,pB v512,pI v514] [] [(5000,pV (.int .u32 ((x505:Nat):Int))),(5001,pV (.int .u32 ((x509:Nat):Int)))]) (stb:=zaI) (tl:=[.sl 0 (.o (.g [.h 0,.h 1])),.sl 1 (.o (.g [.h 2,.h 3])),.sl 2 (.o (.c (.p 0 0))),.sl 3 (.o (.c (.p 1 0))),.sl 5 (.o (.c (.h 14))),.sl 6 (.o (.c (.p 0 0))),.sl 7 (.o (.c (.h 0))),.sl 8 (.o (.c (.p 1 0))),.sl 9 (.o (.c (.h 2))),.sl 10 (.o (.c (.h 4))),.sl 11 (.o (.c (.h 4))),.sl 12 (.o (.c (.p 0 1))),.sl 13 (.o (.c (.h 1))),.sl 14 (.o (.c (.h 5))),.sl 15 (.o (.c (.p 1 1))),.sl 16 (.o (.c (.h 3))),.sl 17 (.o (.c (.h 6))),.sl 18 (.o (.c (.h 7))),.sl 19 (.o (.c (.h 7))),.bx 0 30 [.h 0,.h 1],.bx 1 30 [.h 2,.h 3]]) (C:=((10004,.fb 4 false) ::
  (10007,.fb 7 false) ::
  (1005003,.op (.len [28] 3) [LF (.h 1)] [] (LF (.h 9))) ::
  (1005004,.bin .lss 3 (LF (.h 8)) (LF (.h 9)) (LF (.h 10))) ::
  (10010,.fb 10 true) ::
  (1005008,.op (.ia 28) [LF (.h 1),LF (.h 8)] [] (LF (.h 11))) ::
  (1005009,.op (.ld 123) [LF (.h 11)] [] (LF (.h 5000))) ::
  (1005013,.op (.ia 28) [LF (.h 3),LF (.h 8)] [] (LF (.h 12))) ::
  (1005014,.op (.ld 123) [LF (.h 12)] [] (LF (.h 5001))) ::
  (1005015,.bin .neq 123 (LF (.h 5000)) (LF (.h 5001)) (LF (.h 13))) ::
  (10013,.fb 13 false) ::
  (1005017,.bin .add 3 (LF (.h 8)) (LF (.k (.int .i64 1))) (LF (.h 14))) ::
  []:List (Nat×Ent))) (H:=.no) 5000 (zipA.imp ⟨z_g ⟨fun _ _ _ h=>h,fun _ _ _ h=>h,trivial⟩,z_g ⟨fun _ _ _ h=>h,fun _ _ _ h=>h,trivial⟩,z_c (fun _ _ _ h=>h),z_c (fun _ _ _ h=>h),z_c (fun _ _ _ h=>h),z_c (fun _ _ _ h=>h),z_c (fun _ _ _ h=>h),z_c (fun _ _ _ h=>h),z_c (fun _ _ _ h=>h),z_c (fun _ _ _ h=>h),z_c (fun _ _ _ h=>h),z_c (fun _ _ _ h=>h),z_c (fun _ _ _ h=>h),z_c (fun _ _ _ h=>h),z_c (fun _ _ _ h=>h),z_c (fun _ _ _ h=>h),z_c (fun _ _ _ h=>h),z_c (fun _ _ _ h=>h),z_c (fun _ _ _ h=>h),z_b ⟨fun _ _ _ h=>h,fun _ _ _ h=>h,trivial⟩,z_b ⟨fun _ _ _ h=>h,fun _ _ _ h=>h,trivial⟩,trivial⟩) (zf ⟨zb rfl,zj,zb rfl,zj,zb rfl,zb rfl,zb rfl,zb rfl,zb rfl,zb rfl,zb rfl,zbG,zbG,zb rfl,zb rfl,trivial⟩ trivial ⟨⟨rfl,zh⟩,⟨rfl,zh⟩,trivial⟩) ⟨e_fb (show pV (.bool v1)=_ by rw [h2]),
  e_fb (show pV (.bool v5)=_ by rw [h6]),
  zaW (E:=123) (by kernel_rfl) (zc rfl) (za (by rw [← e501];rfl)),
  e_bin (za rfl) (za rfl) (za rfl) (r_cmp (congrArg some e502)),
  e_fb (show pV (.bool v502)=_ by rw [h503]),
  e_iaD (E:=123) (by kernel_rfl) (by kernel_rfl) (zc rfl) (za rfl) s506 s507 (zc rfl),
  e_ldD (by kernel_rfl) (zc rfl) (za rfl),
  e_iaD (E:=123) (by kernel_rfl) (by kernel_rfl) (zc rfl) (za rfl) s510 s511 (zc rfl),
  e_ldD (by kernel_rfl) (zc rfl) (za rfl),
  e_bin (za rfl) (za rfl) (za rfl) (r_cmp (congrArg some e512)),
  e_fb (show pV (.bool v512)=_ by rw [h513]),
  e_bin (za rfl) zd (za rfl) (r_ar (congrArg some e514)),
  trivial⟩ mixed hR trivial (fun _ _ _ hs=>by cases hs) (by kernel_rfl:zz (KN w0) Tryz.prog _ .no ⟨ntOf Tryz.prog 85,[],[]⟩ (lp Tryz.prog 85 0) 5000 zaI .n [.sl 0 (.o (.g [.h 0,.h 1])),.sl 1 (.o (.g [.h 2,.h 3])),.sl 2 (.o (.c (.p 0 0))),.sl 3 (.o (.c (.p 1 0))),.sl 5 (.o (.c (.h 14))),.sl 6 (.o (.c (.p 0 0))),.sl 7 (.o (.c (.h 0))),.sl 8 (.o (.c (.p 1 0))),.sl 9 (.o (.c (.h 2))),.sl 10 (.o (.c (.h 4))),.sl 11 (.o (.c (.h 4))),.sl 12 (.o (.c (.p 0 1))),.sl 13 (.o (.c (.h 1))),.sl 14 (.o (.c (.h 5))),.sl 15 (.o (.c (.p 1 1))),.sl 16 (.o (.c (.h 3))),.sl 17 (.o (.c (.h 6))),.sl 18 (.o (.c (.h 7))),.sl 19 (.o (.c (.h 7))),.bx 0 30 [.h 0,.h 1],.bx 1 30 [.h 2,.h 3]]=true) rfl (zipA.imp ⟨z_g ⟨fun _ _ _ h=>h,fun _ _ _ h=>h,trivial⟩,z_g ⟨fun _ _ _ h=>h,fun _ _ _ h=>h,trivial⟩,z_c (fun _ _ _ h=>h),z_c (fun _ _ _ h=>h),z_c (fun β v W h=>(zc rfl β v W).2 (by rw [← q0];exact h)),z_c (fun _ _ _ h=>h),z_c (fun _ _ _ h=>h),z_c (fun _ _ _ h=>h),z_c (fun _ _ _ h=>h),z_c (fun _ _ _ h=>h),z_c (fun _ _ _ h=>h),z_c (fun _ _ _ h=>h),z_c (fun _ _ _ h=>h),z_c (fun _ _ _ h=>h),z_c (fun _ _ _ h=>h),z_c (fun _ _ _ h=>h),z_c (fun _ _ _ h=>h),z_c (fun _ _ _ h=>h),z_c (fun _ _ _ h=>h),z_b ⟨fun _ _ _ h=>h,fun _ _ _ h=>h,trivial⟩,z_b ⟨fun _ _ _ h=>h,fun _ _ _ h=>h,trivial⟩,trivial⟩)
def snR_X (x:Raw) (y:Raw) (v1:Bool) (v3:Int) (v4:Int) (v5:Bool) (t:snR_T) (o4:Bool):Prop:=(∃(v501:Int),∃(v502:Bool),∃(n504:Nat),∃(x505:Nat),∃(n508:Nat),∃(x509:Nat),∃(v512:Bool),(((x.2.length:Int))=v501)∧((decide (t.i<v501))=v502)∧(((((x505:Nat):Int) != ((x509:Nat):Int)))=v512)∧(v502=true)∧(t.i=(n504:Int))∧(x.2[n504]?=some x505)∧(t.i=(n508:Int))∧(y.2[n508]?=some x509)∧(v512=true)∧((false)=o4)∧True)
def snR_N (x:Raw) (y:Raw) (v1:Bool) (v3:Int) (v4:Int) (v5:Bool) (t t':snR_T):Prop:=(∃(v501:Int),∃(v502:Bool),∃(n504:Nat),∃(x505:Nat),∃(n508:Nat),∃(x509:Nat),∃(v512:Bool),∃(v514:Int),(((x.2.length:Int))=v501)∧((decide (t.i<v501))=v502)∧(((((x505:Nat):Int) != ((x509:Nat):Int)))=v512)∧((IntKind.i64.wrap (t.i+(1:Int)))=v514)∧(v502=true)∧(t.i=(n504:Int))∧(x.2[n504]?=some x505)∧(t.i=(n508:Int))∧(y.2[n508]?=some x509)∧(v512=false)∧((v514)=t'.i)∧True)
theorem zlN {w0:World} (x:Raw) (y:Raw) (v1:Bool) (v3:Int) (v4:Int) (v5:Bool) (h2:v1=false) (h6:v5=false) (o4:Bool) {F:Fact} (u0:F.c 0=pB x.1) (u1:F.c 1=pD x.2) (u2:F.c 2=pB y.1) (u3:F.c 3=pD y.2) (u4:F.c 4=pB v1) (u5:F.c 5=pI v3) (u6:F.c 6=pI v4) (u7:F.c 7=pB v5) (u8:F.c 8=pB o4) (R:Frm) (hR:R.pm=⟨ntOf Tryz.prog 85,[],[]⟩) (J:snR_T→Prop) (m:snR_T→Nat) (hJ:J { i:=(0:Int) }) (rounds:∀t,J t→snR_X x y v1 v3 v4 v5 t o4∨∃t',snR_N x y v1 v3 v4 v5 t t'∧m t'<m t∧J t'):zg (KN w0) Tryz.prog F R snR_S (lp Tryz.prog 85 0):=by
 refine zP (T:=snR_T) (fun t=>FL [pB x.1,pD x.2,pB y.1,pD y.2,pB v1,pI v3,pI v4,pB v5,pI t.i] []) J m { i:=(0:Int) } zaI hJ (zipA.imp ⟨z_g ⟨fun β v W h=>(zc u0 β v W).1 h,fun β v W h=>(zc u1 β v W).1 h,trivial⟩,z_g ⟨fun β v W h=>(zc u2 β v W).1 h,fun β v W h=>(zc u3 β v W).1 h,trivial⟩,z_c (fun _ _ _ h=>h),z_c (fun _ _ _ h=>h),z_c (fun _ _ _ h=>h),z_c (fun _ _ _ h=>h),z_c (fun β v W h=>(zc u0 β v W).1 h),z_c (fun _ _ _ h=>h),z_c (fun β v W h=>(zc u2 β v W).1 h),z_c (fun β v W h=>(zc u4 β v W).1 h),z_c (fun β v W h=>(zc u4 β v W).1 h),z_c (fun _ _ _ h=>h),z_c (fun β v W h=>(zc u1 β v W).1 h),z_c (fun β v W h=>(zc u5 β v W).1 h),z_c (fun _ _ _ h=>h),z_c (fun β v W h=>(zc u3 β v W).1 h),z_c (fun β v W h=>(zc u6 β v W).1 h),z_c (fun β v W h=>(zc u7 β v W).1 h),z_c (fun β v W h=>(zc u7 β v W).1 h),z_b ⟨fun β v W h=>(zc u0 β v W).1 h,fun β v W h=>(zc u1 β v W).1 h,trivial⟩,z_b ⟨fun β v W h=>(zc u2 β v W).1 h,fun β v W h=>(zc u3 β v W).1 h,trivial⟩,trivial⟩) rfl fun t ht=>?_
 rcases rounds t ht with hz_ | ⟨t',hz_,hm_,hj_⟩
 ·refine .inl ?_
  rcases hz_ with ⟨v501,v502,n504,x505,n508,x509,v512,e501,e502,e512,h503,s506,s507,s510,s511,h513,q0,_⟩
  ·exact zoB  x y v1 v3 v4 v5 h2 h6 t.i v501 v502 n504 x505 n508 x509 v512 e501 e502 e512 h503 s506 s507 s510 s511 h513 o4 F u0 u1 u2 u3 u4 u5 u6 u7 u8 q0 R hR
 ·refine .inr ⟨t',hm_,hj_,?_⟩
  rcases hz_ with ⟨v501,v502,n504,x505,n508,x509,v512,v514,e501,e502,e512,e514,h503,s506,s507,s510,s511,h513,q0,_⟩
  ·exact zoC  x y v1 v3 v4 v5 h2 h6 t.i v501 v502 n504 x505 n508 x509 v512 v514 e501 e502 e512 e514 h503 s506 s507 s510 s511 h513 t'.i q0 R hR
theorem zoA {w0:World} (x:Raw) (y:Raw) (v1:Bool) (v3:Int) (v4:Int) (v5:Bool) (h2:v1=false) (h6:v5=false) (o4:Bool) {F:Fact} (u0:F.c 0=pB x.1) (u1:F.c 1=pD x.2) (u2:F.c 2=pB y.1) (u3:F.c 3=pD y.2) (u4:F.c 4=pB v1) (u5:F.c 5=pI v3) (u6:F.c 6=pI v4) (u7:F.c 7=pB v5) (u8:F.c 8=pB o4) (R:Frm) (hR:R.pm=⟨ntOf Tryz.prog 85,[],[]⟩) (hl:x.2.length=y.2.length) (hb:x.2.length≤9223372036854775807) (he:x.2≠y.2) (ho:o4=false):zg (KN w0) Tryz.prog F R snR_S (lp Tryz.prog 85 0):=by
 refine zlN  x y v1 v3 v4 v5 h2 h6 o4 u0 u1 u2 u3 u4 u5 u6 u7 u8 R hR (fun ⟨i⟩=>∃n:Nat,i=(n:Int)∧n≤x.2.length∧x.2.drop n≠y.2.drop n) (fun ⟨i⟩=>(x.2.length - i).toNat) ⟨0,rfl,Nat.zero_le _,by simpa using he⟩ fun t hJ=>?_
 obtain ⟨i⟩:=t
 dsimp only at hJ
 obtain ⟨n,hi,hn,hd⟩:=hJ
 obtain ⟨v501,e501⟩:∃v,((x.2.length:Int))=v:=⟨_,rfl⟩
 obtain ⟨v502,e502⟩:∃v,(decide (i<v501))=v:=⟨_,rfl⟩
 cases h503:v502 with
 | true =>
  obtain ⟨n504,x505,s506,s507⟩:∃(n504:Nat) (x505:Nat),i=(n504:Int)∧x.2[n504]?=some x505:=by (have hlt:n<x.2.length:=(by subst e501;subst e502;have:=of_decide_eq_true h503;omega);exact ⟨n,x.2[n],hi,List.getElem?_eq_getElem hlt⟩)
  obtain ⟨n508,x509,s510,s511⟩:∃(n508:Nat) (x509:Nat),i=(n508:Int)∧y.2[n508]?=some x509:=by (have hlt:n<x.2.length:=(by subst e501;subst e502;have:=of_decide_eq_true h503;omega);have hl2:n<y.2.length:=(by omega);exact ⟨n,y.2[n],hi,List.getElem?_eq_getElem hl2⟩)
  obtain ⟨v512,e512⟩:∃v,((((x505:Nat):Int) != ((x509:Nat):Int)))=v:=⟨_,rfl⟩
  cases h513:v512 with
  | true =>
   refine .inl (⟨v501,v502,n504,x505,n508,x509,v512,e501,e502,e512,h503,s506,s507,s510,s511,h513,?_,trivial⟩)
   exact ho.symm
  | false =>
   obtain ⟨v514,e514⟩:∃v,(IntKind.i64.wrap (i+(1:Int)))=v:=⟨_,rfl⟩
   refine .inr ⟨⟨v514⟩,⟨v501,v502,n504,x505,n508,x509,v512,v514,e501,e502,e512,e514,h503,s506,s507,s510,s511,h513,rfl,trivial⟩,?_,?_⟩
   all_goals (subst e501;subst e502;have hlt:=of_decide_eq_true h503;subst hi;have hw:IntKind.i64.wrap ((n:Int)+1)=((n+1:Nat):Int):=wr64 (by omega);rw [hw] at e514;subst e514)
   ·show ((x.2.length:Int) - ((n+1:Nat):Int)).toNat<((x.2.length:Int) - (n:Int)).toNat
    omega
   ·refine ⟨n+1,rfl,by omega,(zjd hl n hn hd).2 ?_⟩
    have e1:n504=n:=by omega
    have e2:n508=n:=by omega
    subst e1;subst e2
    rw [List.getD_eq_getElem?_getD,List.getD_eq_getElem?_getD,s507,s511]
    subst e512;simp at h513
    simp only [Option.getD_some];omega
 | false =>
  exfalso
  subst e501;subst e502
  have:=of_decide_eq_false h503
  have:=(zjd hl n hn hd).1
  omega
theorem sn_p0 {w0:World} (x:Raw) (y:Raw) (v1:Bool) (e1:(!(x.1 == y.1))=v1) (h2:v1=true):Fun (KN w0) Tryz.prog 85 [.o (.g [pB x.1,pD x.2]),.o (.g [pB y.1,pD y.2])] (.o (.c (pV (.bool false)))):=
 zi (zl (F:=FL [pB x.1,pD x.2,pB y.1,pD y.2,pB v1] []) (C:=[(1000007,.bin .neq 4 (LF (.h 0)) (LF (.h 2)) (LF (.h 4))),
  (10004,.fb 4 true)]) (k:=⟨85,[.o (.g [.h 0,.h 1]),.o (.g [.h 2,.h 3])],[],.o (.c (.k (.bool false))),[]⟩) 0 (zf ⟨zb rfl,zj,zb rfl,zj,zb rfl,trivial⟩) ⟨e_bin (za rfl) (za rfl) (za rfl) (fun W X Y=>by rw [← e1];exact r_bne (by kernel_rfl) W X Y),
  e_fb (show pV (.bool v1)=_ by rw [h2]),
  trivial⟩ mixed (by kernel_rfl)) rfl rfl rfl rfl
theorem sn_p1 {w0:World} (x:Raw) (y:Raw) (v1:Bool) (v3:Int) (v4:Int) (v5:Bool) (e1:(!(x.1 == y.1))=v1) (e3:((x.2.length:Int))=v3) (e4:((y.2.length:Int))=v4) (e5:((v3 != v4))=v5) (h2:v1=false) (h6:v5=true):Fun (KN w0) Tryz.prog 85 [.o (.g [pB x.1,pD x.2]),.o (.g [pB y.1,pD y.2])] (.o (.c (pV (.bool false)))):=
 zi (zl (F:=FL [pB x.1,pD x.2,pB y.1,pD y.2,pB v1,pI v3,pI v4,pB v5] []) (C:=[(1000007,.bin .neq 4 (LF (.h 0)) (LF (.h 2)) (LF (.h 4))),
  (10004,.fb 4 false),
  (1000011,.op (.len [28] 3) [LF (.h 1)] [] (LF (.h 5))),
  (1000014,.op (.len [28] 3) [LF (.h 3)] [] (LF (.h 6))),
  (1000015,.bin .neq 3 (LF (.h 5)) (LF (.h 6)) (LF (.h 7))),
  (10007,.fb 7 true)]) (k:=⟨85,[.o (.g [.h 0,.h 1]),.o (.g [.h 2,.h 3])],[],.o (.c (.k (.bool false))),[]⟩) 0 (zf ⟨zb rfl,zj,zb rfl,zj,zb rfl,zb rfl,zb rfl,zb rfl,trivial⟩) ⟨e_bin (za rfl) (za rfl) (za rfl) (fun W X Y=>by rw [← e1];exact r_bne (by kernel_rfl) W X Y),
  e_fb (show pV (.bool v1)=_ by rw [h2]),
  zaW (E:=123) (by kernel_rfl) (zc rfl) (za (by rw [← e3];rfl)),
  zaW (E:=123) (by kernel_rfl) (zc rfl) (za (by rw [← e4];rfl)),
  e_bin (za rfl) (za rfl) (za rfl) (r_cmp (congrArg some e5)),
  e_fb (show pV (.bool v5)=_ by rw [h6]),
  trivial⟩ mixed (by kernel_rfl)) rfl rfl rfl rfl
theorem sn_p2 {w0:World} (x:Raw) (y:Raw) (v1:Bool) (v3:Int) (v4:Int) (v5:Bool) (o4:Bool) (e1:(!(x.1 == y.1))=v1) (e3:((x.2.length:Int))=v3) (e4:((y.2.length:Int))=v4) (e5:((v3 != v4))=v5) (h2:v1=false) (h6:v5=false) (L_snR:∀R:Frm,R.pm=⟨ntOf Tryz.prog 85,[],[]⟩→zg (KN w0) Tryz.prog (FL [pB x.1,pD x.2,pB y.1,pD y.2,pB v1,pI v3,pI v4,pB v5,pB o4] []) R snR_S (lp Tryz.prog 85 0)):Fun (KN w0) Tryz.prog 85 [.o (.g [pB x.1,pD x.2]),.o (.g [pB y.1,pD y.2])] (.o (.c (pB o4))):=
 zi (z8 (F:=FL [pB x.1,pD x.2,pB y.1,pD y.2,pB v1,pI v3,pI v4,pB v5,pB o4] []) (C:=[(1000007,.bin .neq 4 (LF (.h 0)) (LF (.h 2)) (LF (.h 4))),
  (10004,.fb 4 false),
  (1000011,.op (.len [28] 3) [LF (.h 1)] [] (LF (.h 5))),
  (1000014,.op (.len [28] 3) [LF (.h 3)] [] (LF (.h 6))),
  (1000015,.bin .neq 3 (LF (.h 5)) (LF (.h 6)) (LF (.h 7))),
  (10007,.fb 7 false)]) (k:=⟨85,[.o (.g [.h 0,.h 1]),.o (.g [.h 2,.h 3])],[],.o (.c (.h 8)),[]⟩) ⟨[snR_S],[],0⟩ [] 0 (zf ⟨zb rfl,zj,zb rfl,zj,zb rfl,zb rfl,zb rfl,zb rfl,zb rfl,trivial⟩) ⟨e_bin (za rfl) (za rfl) (za rfl) (fun W X Y=>by rw [← e1];exact r_bne (by kernel_rfl) W X Y),
  e_fb (show pV (.bool v1)=_ by rw [h2]),
  zaW (E:=123) (by kernel_rfl) (zc rfl) (za (by rw [← e3];rfl)),
  zaW (E:=123) (by kernel_rfl) (zc rfl) (za (by rw [← e4];rfl)),
  e_bin (za rfl) (za rfl) (za rfl) (r_cmp (congrArg some e5)),
  e_fb (show pV (.bool v5)=_ by rw [h6]),
  trivial⟩ mixed trivial (fun R hR p hp s hs=>by
 have hl:zH (qg Tryz.prog 85)=[(4,lp Tryz.prog 85 0)]:=by kernel_rfl
 rw [hl] at hp
 simp only [List.mem_cons,List.not_mem_nil,or_false] at hp
 rcases hp with rfl
 ·have e:s=snR_S:=(Option.some.inj hs).symm
  subst e;exact L_snR R hR) (by kernel_rfl)) rfl rfl rfl rfl
theorem sn_p3 {w0:World} (x:Raw) (y:Raw) (v1:Bool) (v3:Int) (v4:Int) (v5:Bool) (e1:(!(x.1 == y.1))=v1) (e3:((x.2.length:Int))=v3) (e4:((y.2.length:Int))=v4) (e5:((v3 != v4))=v5) (h2:v1=false) (h6:v5=false) (L_snE:∀R:Frm,R.pm=⟨ntOf Tryz.prog 85,[],[]⟩→zg (KN w0) Tryz.prog (FL [pB x.1,pD x.2,pB y.1,pD y.2,pB v1,pI v3,pI v4,pB v5] []) R snE_S (lp Tryz.prog 85 0)):Fun (KN w0) Tryz.prog 85 [.o (.g [pB x.1,pD x.2]),.o (.g [pB y.1,pD y.2])] (.o (.c (pV (.bool true)))):=
 zi (z8 (F:=FL [pB x.1,pD x.2,pB y.1,pD y.2,pB v1,pI v3,pI v4,pB v5] []) (C:=[(1000007,.bin .neq 4 (LF (.h 0)) (LF (.h 2)) (LF (.h 4))),
  (10004,.fb 4 false),
  (1000011,.op (.len [28] 3) [LF (.h 1)] [] (LF (.h 5))),
  (1000014,.op (.len [28] 3) [LF (.h 3)] [] (LF (.h 6))),
  (1000015,.bin .neq 3 (LF (.h 5)) (LF (.h 6)) (LF (.h 7))),
  (10007,.fb 7 false)]) (k:=⟨85,[.o (.g [.h 0,.h 1]),.o (.g [.h 2,.h 3])],[],.o (.c (.k (.bool true))),[]⟩) ⟨[snE_S],[],0⟩ [] 0 (zf ⟨zb rfl,zj,zb rfl,zj,zb rfl,zb rfl,zb rfl,zb rfl,trivial⟩) ⟨e_bin (za rfl) (za rfl) (za rfl) (fun W X Y=>by rw [← e1];exact r_bne (by kernel_rfl) W X Y),
  e_fb (show pV (.bool v1)=_ by rw [h2]),
  zaW (E:=123) (by kernel_rfl) (zc rfl) (za (by rw [← e3];rfl)),
  zaW (E:=123) (by kernel_rfl) (zc rfl) (za (by rw [← e4];rfl)),
  e_bin (za rfl) (za rfl) (za rfl) (r_cmp (congrArg some e5)),
  e_fb (show pV (.bool v5)=_ by rw [h6]),
  trivial⟩ mixed trivial (fun R hR p hp s hs=>by
 have hl:zH (qg Tryz.prog 85)=[(4,lp Tryz.prog 85 0)]:=by kernel_rfl
 rw [hl] at hp
 simp only [List.mem_cons,List.not_mem_nil,or_false] at hp
 rcases hp with rfl
 ·have e:s=snE_S:=(Option.some.inj hs).symm
  subst e;exact L_snE R hR) (by kernel_rfl)) rfl rfl rfl rfl
theorem zk8 {K:Kit} {P:Program} {f:FuncId} {res:PSh} {x:Raw} {r:List PSh} (h:x.2.length≤9223372036854775807→Fun K P f (gN x::r) res):Fun K P f (gN x::r) res:=by
 intro W D vs hs hf
 match vs,hs with
 | v::us,hs =>
  obtain ⟨A,n,c,_,h2⟩:=gN_ok hs.1
  exact h (by rw [h2.len];exact Nat.le_trans h2.2.1 h2.2.2) W D (v::us) hs hf
 | [],h=>exact h.elim
theorem zaD {w0:World} (x y:Raw) (o:Bool) (ho:decide (x=y)=o):Fun (KN w0) Tryz.prog 85 [.o (.g [pB x.1,pD x.2]),.o (.g [pB y.1,pD y.2])] (.o (.c (pB o))):=by
 refine zk8 fun hb=>?_
 obtain ⟨v1,e1⟩:∃v,(!(x.1 == y.1))=v:=⟨_,rfl⟩
 cases h2:v1 with
 | true =>
  refine Fun.imp (sn_p0 x y v1 e1 h2) (fun _ _ _ h=>h) (fun v W D h=>?_)
  have r0:o=false:=by
   rw [← ho,decide_eq_false_iff_not]
   intro e
   subst e
   simp_all
  rw [r0];exact h
 | false =>
  obtain ⟨v3,e3⟩:∃v,((x.2.length:Int))=v:=⟨_,rfl⟩
  obtain ⟨v4,e4⟩:∃v,((y.2.length:Int))=v:=⟨_,rfl⟩
  obtain ⟨v5,e5⟩:∃v,((v3 != v4))=v:=⟨_,rfl⟩
  cases h6:v5 with
  | true =>
   refine Fun.imp (sn_p1 x y v1 v3 v4 v5 e1 e3 e4 e5 h2 h6) (fun _ _ _ h=>h) (fun v W D h=>?_)
   have r0:o=false:=by
    rw [← ho,decide_eq_false_iff_not]
    intro e
    subst e
    simp_all
   rw [r0];exact h
  | false =>
   by_cases c4:x.2=y.2
   ·
    refine Fun.imp (sn_p3 x y v1 v3 v4 v5 e1 e3 e4 e5 h2 h6 (fun R hR=>zox x y v1 v3 v4 v5 h2 h6  rfl rfl rfl rfl rfl rfl rfl rfl R hR (by have:=e5.trans h6;simp at this;omega) hb c4)) (fun _ _ _ h=>h) (fun v W D h=>?_)
    have r0:o=true:=by
     rw [← ho,decide_eq_true_iff]
     exact Prod.ext (by simp_all) c4
    rw [r0];exact h
   ·
    obtain ⟨o4,hO_snR⟩:∃(o4:Bool),o4=false:=⟨_,rfl⟩
    refine Fun.imp (sn_p2 x y v1 v3 v4 v5 o4 e1 e3 e4 e5 h2 h6 (fun R hR=>zoA x y v1 v3 v4 v5 h2 h6 o4 rfl rfl rfl rfl rfl rfl rfl rfl rfl R hR (by have:=e5.trans h6;simp at this;omega) hb c4 hO_snR)) (fun _ _ _ h=>h) (fun v W D h=>?_)
    have r0:o=o4:=by
     rw [← ho,hO_snR,decide_eq_false_iff_not]
     intro e
     exact c4 (by rw [e])
    rw [r0];exact h
end Go.Proofs.YtjcegdldgjphiaaGreatDoor
namespace Go.Proofs.YtjcegdldgjphiaaGreatDoor
open Go.RowKit Go.Shelf
theorem zjs {w0:World} (x:RR) (y:RR) (v1:Bool) (v3:Bool) (e1:(decide (x.1=y.1))=v1) (e3:(decide (x.2=y.2))=v3) (h2:v1=true):Fun (KN w0) Tryz.prog 59 [.o (.g [pB x.1.1,pD x.1.2,pB x.2.1,pD x.2.2]),.o (.g [pB y.1.1,pD y.1.2,pB y.2.1,pD y.2.2])] (.o (.c (pB v3))):=
 zi (zl (F:=FL [pB x.1.1,pD x.1.2,pB x.2.1,pD x.2.2,pB y.1.1,pD y.1.2,pB y.2.1,pD y.2.2,pB v1,pB v3] []) (C:=[(1000007,.call ⟨85,[.o (.g [.h 0,.h 1]),.o (.g [.h 4,.h 5])],[],.o (.c (.h 8)),[]⟩),
  (10008,.fb 8 true),
  (1000013,.call ⟨85,[.o (.g [.h 2,.h 3]),.o (.g [.h 6,.h 7])],[],.o (.c (.h 9)),[]⟩)]) (k:=⟨59,[.o (.g [.h 0,.h 1,.h 2,.h 3]),.o (.g [.h 4,.h 5,.h 6,.h 7])],[],.o (.c (.h 9)),[]⟩) 0 (zf ⟨zb rfl,zj,zb rfl,zj,zb rfl,zj,zb rfl,zj,zb rfl,zb rfl,trivial⟩) ⟨ze (zaD x.1 y.1 v1 e1) rfl rfl rfl rfl,
  e_fb (show pV (.bool v1)=_ by rw [h2]),
  ze (zaD x.2 y.2 v3 e3) rfl rfl rfl rfl,
  trivial⟩ mixed (by kernel_rfl)) rfl rfl rfl rfl
theorem zjt {w0:World} (x:RR) (y:RR) (v1:Bool) (e1:(decide (x.1=y.1))=v1) (h2:v1=false):Fun (KN w0) Tryz.prog 59 [.o (.g [pB x.1.1,pD x.1.2,pB x.2.1,pD x.2.2]),.o (.g [pB y.1.1,pD y.1.2,pB y.2.1,pD y.2.2])] (.o (.c (pV (.bool false)))):=
 zi (zl (F:=FL [pB x.1.1,pD x.1.2,pB x.2.1,pD x.2.2,pB y.1.1,pD y.1.2,pB y.2.1,pD y.2.2,pB v1] []) (C:=[(1000007,.call ⟨85,[.o (.g [.h 0,.h 1]),.o (.g [.h 4,.h 5])],[],.o (.c (.h 8)),[]⟩),
  (10008,.fb 8 false)]) (k:=⟨59,[.o (.g [.h 0,.h 1,.h 2,.h 3]),.o (.g [.h 4,.h 5,.h 6,.h 7])],[],.o (.c (.k (.bool false))),[]⟩) 0 (zf ⟨zb rfl,zj,zb rfl,zj,zb rfl,zj,zb rfl,zj,zb rfl,trivial⟩) ⟨ze (zaD x.1 y.1 v1 e1) rfl rfl rfl rfl,
  e_fb (show pV (.bool v1)=_ by rw [h2]),
  trivial⟩ mixed (by kernel_rfl)) rfl rfl rfl rfl
theorem zmq {w0:World} (x y:RR) (o:Bool) (ho:decide (x=y)=o):Fun (KN w0) Tryz.prog 59 [.o (.g [pB x.1.1,pD x.1.2,pB x.2.1,pD x.2.2]),.o (.g [pB y.1.1,pD y.1.2,pB y.2.1,pD y.2.2])] (.o (.c (pB o))):=by
 obtain ⟨v1,e1⟩:∃v,(decide (x.1=y.1))=v:=⟨_,rfl⟩
 cases h2:v1 with
 | true =>
  obtain ⟨v3,e3⟩:∃v,(decide (x.2=y.2))=v:=⟨_,rfl⟩
  refine Fun.imp (zjs x y v1 v3 e1 e3 h2) (fun _ _ _ h=>h) (fun v W D h=>?_)
  have r0:o=v3:=by
   rw [← ho]
   subst_vars
   cases x;cases y
   simp_all
  rw [r0];exact h
 | false =>
  refine Fun.imp (zjt x y v1 e1 h2) (fun _ _ _ h=>h) (fun v W D h=>?_)
  have r0:o=false:=by
   rw [← ho]
   subst_vars
   cases x;cases y
   simp_all
  rw [r0];exact h
end Go.Proofs.YtjcegdldgjphiaaGreatDoor
namespace Go.Proofs.YtjcegdldgjphiaaGreatDoor
open Go.RowKit Go.Shelf
def cI (x:Int):List Pred:=[pI x]
theorem zo {w0:World} (x:Int):FineAll (KN w0) (cI x):=⟨zb rfl,trivial⟩
structure nb_T where
 i:Int
 acc:Raw
end Go.Proofs.YtjcegdldgjphiaaGreatDoor
namespace Go.Proofs.YtjcegdldgjphiaaGreatDoor
open Go.RowKit Go.Shelf
end Go.Proofs.YtjcegdldgjphiaaGreatDoor
namespace Go.Proofs.YtjcegdldgjphiaaGreatDoor
open Go.RowKit Go.Shelf
end Go.Proofs.YtjcegdldgjphiaaGreatDoor
