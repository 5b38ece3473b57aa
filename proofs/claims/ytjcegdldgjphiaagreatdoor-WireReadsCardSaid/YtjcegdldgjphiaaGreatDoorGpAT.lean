/-
  Merged: RtLift, WrMath, WrBits, WrSpec, WrRef, SymX.
-/
import Derived.Test.YtjcegdldgjphiaaGreatDoorGpAP
import Derived.Test.YtjcegdldgjphiaaGreatDoorGpAR
import Derived.Test.YtjcegdldgjphiaaGreatDoorGpAS
import Derived.ChangeMaps5
import Derived.WalkKit
import Derived.Test.YtjcegdldgjphiaaGreatDoorGpAN
import Derived.Test.YtjcegdldgjphiaaGreatDoorGpAB
set_option linter.unusedSimpArgs false
set_option linter.unusedVariables false
namespace Go.Proofs.YtjcegdldgjphiaaGreatDoor
open Go.ChangeShapes Go.WideShapes Go.ChangeAt Go.RowKit Go.Joins Go.Deep
theorem zrd {W:World} (h:W.ShapedOpen Tryz.prog):∀W2,Below W.heap.size W W2→MaxT W2:=by
 obtain ⟨m,hm⟩:=Tryz.laysM145.s1_3 W h
 have hm':W.cell? ⟨2,0,none⟩=some (.int .i64 m):=hm
 intro W2 hb
 exact ⟨m,(hb.cell (p:=⟨2,0,none⟩) (zmE hm')).trans hm'⟩
theorem zq8 {W:World} (h:laidMetH Tryz.prog laidL W):∀W2,Below W.heap.size W W2→PowT W.heap.size W2∧SynT W.heap.size W2:=by
 intro W2 hb
 exact ⟨fun w3 h3=>(zlO h).1 w3 (hb.trans h3),(zlO h).2.below hb (Nat.le_refl _)⟩
section
variable {H:Type} {enc:TypeId×Value→H}
theorem zlk {a:Assume} {C:Checked} {os:Os} {f:FuncId} {fn:Func} {s:ChangeSpec} {conds:List PathCond} {apart fresh handsOn again:Bool} {X:World→Array Value→Prop}
  (hX:∀(w w':World) (args:Array Value),w.heap=w'.heap→X w args→X w' args)
  (own:ownKnob C.prog.godebug=none) (started:os.Started) (noInit:C.prog.inits.idxOf? f=none) (hfn:C.prog.funcs[f]?=some fn)
  (witness:∃(w:World) (tape:Tape) (i:Input),w.os=os∧(w.forCall tape i).Shaped C.prog∧i.vars=[]∧Input.okWide C.prog (w.forCall tape i) .any w.heap.size f i ∧
   ((s.pre enc C.prog fn conds apart (w.forCall tape i).memory i.args∧X (w.forCall tape i).memory i.args)∧sizedMet enc C.prog fn (OpenSpec.ofChange s) apart (w.forCall tape i).memory i.args)∧a.holds C.prog (lone (Frame.enter C.prog f i.args .normal) [] (w.forCall tape i)))
  (contract:∀(W:World) (base:Nat) (args:Array Value) (ds gs:List (DataW H)) (before:List MemPlace),
   (∀(j:Nat) t v,fn.params[j]?=some t→args[j]?=some v→Value.okWide C.prog W .any base t v) →
   DataW.Whole enc C.prog fn.params.toList s.vars apart W args.toList ds gs before→X W args→W.ShapedOpen C.prog →
   Calls C.prog f args W fun e W'=>∃v,e=.returned v∧s.post enc C.prog fn apart fresh handsOn again W args v W') :
  ReturnsInHanded a C os f .any (fun w args=>(s.pre enc C.prog fn conds apart w args∧X w args)∧sizedMet enc C.prog fn (OpenSpec.ofChange s) apart w args) (s.post enc C.prog fn apart fresh handsOn again):=by
 refine returnsInHanded_of_calls own started noInit witness ?_
 intro w tape i _ hsh _ hok hpre _
 obtain ⟨_,_,_,fn',hfn',_,_,_,_,hval⟩:=hok
 have e:fn'=fn:=Option.some.inj (hfn'.symm.trans hfn)
 subst e
 obtain ⟨⟨⟨ds,gs,before,hw,_⟩,hx⟩,_⟩:=hpre
 have hw':=DataW.Whole.of_heap (w':=w.forCall tape i) (by rfl) hw
 refine (contract (w.forCall tape i) w.heap.size i.args ds gs before hval hw' (hX _ _ _ (by rfl) hx) hsh).mono fun e W' ⟨v,he,hp⟩=>?_
 subst he
 exact ChangeSpec.post_blind hp
end
def old (W:World):Dat:=fun q=>q<W.heap.size
theorem ztH {W:World} {f:FuncId} {sh:List PSh} {args:Array Value} (hF:Fun (KN W) Tryz.prog f sh (.o (.c (pV (.bool true))))) (hs:oka sh args.toList W (old W)) :
  Calls Tryz.prog f args W fun e W'=>e=.returned (.bool true)∧Below W.heap.size W W':=by
 have:=hF W (old W) args.toList hs ⟨Below.refl _ _,fun q h=>h⟩
 rw [Array.toArray_toList] at this
 refine this.mono fun e W' hr=>?_
 obtain ⟨v,D',rfl,hv,hk⟩:=hr
 have hv':v=.bool true:=hv
 subst hv'
 exact ⟨rfl,hk.bel⟩
section
variable {H:Type} {enc:TypeId×Value→H} {w:World} {base:Nat} {v:Value} {d:DataW H} {p:List MemPlace}
end
end Go.Proofs.YtjcegdldgjphiaaGreatDoor
namespace Go.Proofs.YtjcegdldgjphiaaGreatDoor
def zig (n:Int):Nat:=if 0≤n then (2*n).toNat else (-2*n - 1).toNat
def unzig (c:Nat):Int:=if c%2=0 then ((c / 2:Nat):Int) else -((c / 2:Nat):Int) - 1
theorem ziF (n:Int):unzig (zig n)=n:=by
 unfold zig unzig
 split<;>split<;>omega
theorem zqw (c:Nat):zig (unzig c)=c:=by
 unfold zig unzig
 split<;>split<;>omega
theorem zjP {n:Int} (h:-9223372036854775808≤n∧n<9223372036854775808):zig n<18446744073709551616:=by
 unfold zig
 split<;>omega
theorem zhu {c:Nat} (h:c<18446744073709551616):-9223372036854775808≤unzig c∧unzig c<9223372036854775808:=by
 unfold unzig
 split<;>omega
def dg7 (d:Nat):UInt8:=UInt8.ofNat d
theorem zb6 {d:Nat} (h:d<256):(dg7 d).toNat=d:=by
 unfold dg7
 rw [UInt8.toNat_ofNat']
 exact Nat.mod_eq_of_lt h
theorem zsL (b:UInt8):dg7 b.toNat=b:=by unfold dg7;exact UInt8.ofNat_toNat
def encN (c:Nat):List UInt8:=if c<128 then [dg7 c] else dg7 (c%128+128)::encN (c / 128)
termination_by c
decreasing_by omega
theorem qP {c:Nat} (h:c<128):encN c=[dg7 c]:=by rw [encN,if_pos h]
theorem zbd {c:Nat} (h:¬ c<128):encN c=dg7 (c%128+128)::encN (c / 128):=by rw [encN,if_neg h]
def encI (n:Int):List UInt8:=encN (zig n)
theorem zkd (c:Nat):encN c≠[]:=by
 rw [encN]
 split<;>simp
def decGo:Nat→List UInt8→Option (Nat×List UInt8)
 | _,[]=>none
 | k,b::s=>if (k=9∧1<b.toNat)∨(0<k∧b.toNat=0) then none else if b.toNat<128 then some (b.toNat,s) else match decGo (k+1) s with
  | some (v,r)=>some (b.toNat - 128+128*v,r)
  | none=>none
def roof (k:Nat):Nat:=2 ^ (64 - 7*k)
theorem zeY {k:Nat} (h:k<9):roof k=128*roof (k+1):=by
 unfold roof
 rw [show 64 - 7*k=7+(64 - 7*(k+1)) by omega,Nat.pow_add]
theorem zrH (k:Nat):0<roof k:=Nat.pow_pos (by decide)
theorem ztl (b:UInt8):b.toNat<256:=b.toNat_lt
theorem zoo:∀(c k:Nat) (r:List UInt8),k≤9→c<roof k→(0<k→0<c)→decGo k (encN c++r)=some (c,r):=by
 intro c
 induction c using Nat.strongRecOn with
 | _ c ih =>
  intro k r hk hc h0
  by_cases h:c<128
  ·rw [qP h,List.singleton_append,decGo,zb6 (by omega),if_neg,if_pos h]
   rintro (⟨rfl,h2⟩ | ⟨h1,h2⟩)
   ·have:roof 9=2:=by decide
    omega
   ·have:=h0 h1;omega
  ·have h9:k<9:=by
    rcases Nat.lt_or_ge k 9 with h1 | h1
    ·exact h1
    ·have:k=9:=by omega
     subst this
     have:roof 9=2:=by decide
     omega
   rw [zbd h,List.cons_append,decGo,zb6 (by omega),if_neg (by omega),if_neg (by omega)]
   have:=zeY h9
   rw [ih (c / 128) (by omega) (k+1) r (by omega) (by omega) (by omega)]
   simp only [Option.some.injEq,Prod.mk.injEq,and_true]
   omega
theorem zeA:∀(s:List UInt8) (k c:Nat) (r:List UInt8),k≤9→decGo k s=some (c,r)→s=encN c++r∧c<roof k∧(0<k→0<c)
 | [],k,c,r,_,h=>by simp [decGo] at h
 | b::s,k,c,r,hk,h=>by
  have hb:=ztl b
  rw [decGo] at h
  split at h
  ·cases h
  ·rename_i hn
   split at h
   ·rename_i h1
    simp only [Option.some.injEq,Prod.mk.injEq] at h
    obtain ⟨rfl,rfl⟩:=h
    refine ⟨by rw [qP h1,zsL];rfl,?_,fun h0=>by omega⟩
    rcases Nat.lt_or_ge k 9 with h9 | h9
    ·have:=zeY h9
     have:=zrH (k+1)
     omega
    ·have:k=9:=by omega
     subst this
     have:roof 9=2:=by decide
     omega
   ·rename_i h1
    have h9:k<9:=by
     rcases Nat.lt_or_ge k 9 with h2 | h2
     ·exact h2
     ·exfalso;exact hn (.inl ⟨by omega,by omega⟩)
    split at h
    ·rename_i v r' hv
     simp only [Option.some.injEq,Prod.mk.injEq] at h
     obtain ⟨rfl,rfl⟩:=h
     obtain ⟨e,h2,h3⟩:=zeA s (k+1) v r' (by omega) hv
     have h4:=h3 (by omega)
     have:=zeY h9
     refine ⟨?_,by omega,fun _=>by omega⟩
     have e1:(b.toNat - 128+128*v)%128+128=b.toNat:=by omega
     have e2:(b.toNat - 128+128*v) / 128=v:=by omega
     rw [zbd (by omega),e1,e2,zsL,e];rfl
    ·cases h
def decI (s:List UInt8):Option (Int×List UInt8):=(decGo 0 s).map fun x=>(unzig x.1,x.2)
theorem roof0:roof 0=18446744073709551616:=by decide
theorem zlw {n:Int} (h:-9223372036854775808≤n∧n<9223372036854775808) (r:List UInt8):decI (encI n++r)=some (n,r):=by
 unfold decI encI
 rw [zoo _ 0 r (by decide) (by rw [roof0];exact zjP h) (by omega)]
 show some (unzig (zig n),r)=_
 rw [ziF]
theorem zlE {s r:List UInt8} {n:Int} (h:decI s=some (n,r)):s=encI n++r∧-9223372036854775808≤n∧n<9223372036854775808:=by
 unfold decI at h
 cases hd:decGo 0 s with
 | none=>rw [hd] at h;cases h
 | some x =>
  obtain ⟨c,r'⟩:=x
  rw [hd] at h
  simp only [Option.map_some,Option.some.injEq,Prod.mk.injEq] at h
  obtain ⟨rfl,rfl⟩:=h
  obtain ⟨e,h1,_⟩:=zeA s 0 c r' (by decide) hd
  rw [roof0] at h1
  refine ⟨?_,zhu h1⟩
  unfold encI
  rw [zqw];exact e
theorem zgJ (n:Int):encI n≠[]:=zkd _
end Go.Proofs.YtjcegdldgjphiaaGreatDoor
namespace Go.Proofs.YtjcegdldgjphiaaGreatDoor
theorem za4 {w a:Nat}:BitVec.ofInt w (a:Int)=BitVec.ofNat w a:=BitVec.ofInt_natCast ..
theorem wu64 (x:Int):IntKind.u64.wrap x=x%18446744073709551616:=IntKind.wrap_u64 x
theorem wu8 (x:Int):IntKind.u8.wrap x=x%256:=IntKind.wrap_u8 x
theorem zfY {w a:Nat} (h:a<2 ^ w):(BitVec.ofNat w a).toNat=a:=by rw [BitVec.toNat_ofNat,Nat.mod_eq_of_lt h]
theorem or8 (c:Nat):IntKind.u8.wrap ((BitVec.ofInt IntKind.u8.bits (IntKind.u8.wrap (c:Int)) ||| BitVec.ofInt IntKind.u8.bits 128).toNat:Int)=((c%128+128:Nat):Int):=by
 have e:IntKind.u8.wrap (c:Int)=((c%256:Nat):Int):=by rw [wu8];omega
 rw [e,show IntKind.u8.bits=8 from rfl,za4,wu8]
 have key:∀x:Fin 256,((BitVec.ofNat 8 x.1 ||| BitVec.ofInt 8 128).toNat:Int)%256=((x.1%128+128:Nat):Int):=by decide +kernel
 rw [key ⟨c%256,Nat.mod_lt _ (by decide)⟩]
 simp only []
 omega
theorem and8 (b:UInt8):IntKind.u8.wrap ((BitVec.ofInt IntKind.u8.bits (b.toNat:Int) &&& BitVec.ofInt IntKind.u8.bits 127).toNat:Int)=((b.toNat%128:Nat):Int):=by
 rw [show IntKind.u8.bits=8 from rfl,za4,wu8]
 have key:∀x:Fin 256,((BitVec.ofNat 8 x.1 &&& BitVec.ofInt 8 127).toNat:Int)%256=((x.1%128:Nat):Int):=by decide +kernel
 exact key ⟨b.toNat,b.toNat_lt⟩
theorem ztW {code d k:Nat} (hc:code<2 ^ k) (h:code+d*2 ^ k<18446744073709551616):IntKind.u64.wrap ((BitVec.ofInt IntKind.u64.bits (code:Int) ||| BitVec.ofInt IntKind.u64.bits ((d*2 ^ k:Nat):Int)).toNat:Int)=((code+d*2 ^ k:Nat):Int):=by
 have e:(18446744073709551616:Nat)=2 ^ 64:=by decide
 rw [show IntKind.u64.bits=64 from rfl,za4,za4,BitVec.toNat_or,zfY (by rw [← e];omega),zfY (by rw [← e];omega),wu64]
 have h2:d <<< k+code=d <<< k ||| code:=Nat.shiftLeft_add_eq_or_of_lt hc d
 rw [Nat.shiftLeft_eq] at h2
 rw [Nat.or_comm,← h2]
 generalize d*2 ^ k=y at h
 omega
theorem zgl {a:Nat} (h:a<18446744073709551616):(BitVec.ofInt 64 (a:Int) ^^^ BitVec.ofInt 64 0).toNat=a:=by
 have e:(18446744073709551616:Nat)=2 ^ 64:=by decide
 rw [show (BitVec.ofInt 64 0)=0#64 by decide,BitVec.xor_zero,za4,zfY (by rw [← e];exact h)]
theorem zgk {a:Nat} (h:a<18446744073709551616):(BitVec.ofInt 64 (a:Int) ^^^ BitVec.allOnes 64).toNat=18446744073709551615 - a:=by
 have e:(18446744073709551616:Nat)=2 ^ 64:=by decide
 rw [BitVec.xor_allOnes,BitVec.toNat_not,za4,zfY (by rw [← e];exact h)]
theorem zsA {n:Int} (h:-9223372036854775808≤n∧n<9223372036854775808):IntKind.u64.wrap ((BitVec.ofInt IntKind.u64.bits (IntKind.u64.wrap (IntKind.u64.wrap n*2)) ^^^ BitVec.ofInt IntKind.u64.bits (IntKind.u64.wrap (n.fdiv 9223372036854775808))).toNat:Int)=(zig n:Int):=by
 rw [show IntKind.u64.bits=64 from rfl]
 by_cases h0:0≤n
 ·have e1:IntKind.u64.wrap (IntKind.u64.wrap n*2)=((2*n).toNat:Int):=by rw [wu64,wu64];omega
  have e2:IntKind.u64.wrap (n.fdiv 9223372036854775808)=0:=by rw [wu64,Int.fdiv_eq_ediv_of_nonneg _ (by decide)];omega
  rw [e1,e2,zgl (by omega),wu64]
  unfold zig
  rw [if_pos h0];omega
 ·have e1:IntKind.u64.wrap (IntKind.u64.wrap n*2)=((2*n+18446744073709551616).toNat:Int):=by rw [wu64,wu64];omega
  have e2:IntKind.u64.wrap (n.fdiv 9223372036854775808)=18446744073709551615:=by rw [wu64,Int.fdiv_eq_ediv_of_nonneg _ (by decide)];omega
  rw [e1,e2,show BitVec.ofInt 64 18446744073709551615=BitVec.allOnes 64 by decide,zgk (by omega),wu64]
  unfold zig
  rw [if_neg h0];omega
theorem zdX {c:Nat} (h:c<18446744073709551616):IntKind.i64.wrap ((BitVec.ofInt IntKind.i64.bits (IntKind.i64.wrap ((c:Int).fdiv 2)) ^^^ BitVec.ofInt IntKind.i64.bits (IntKind.i64.wrap (0 - IntKind.i64.wrap (IntKind.u64.wrap ((BitVec.ofInt IntKind.u64.bits (c:Int) &&& BitVec.ofInt IntKind.u64.bits 1).toNat:Int))))).toNat:Int)=unzig c:=by
 have e:(18446744073709551616:Nat)=2 ^ 64:=by decide
 have ha:((BitVec.ofInt 64 (c:Int) &&& BitVec.ofInt 64 1).toNat)=c%2:=by
  rw [za4,show BitVec.ofInt 64 1=BitVec.ofNat 64 1 by decide,BitVec.toNat_and,zfY (by rw [← e];exact h),zfY (by decide),Nat.and_one_is_mod]
 have hw:∀x:Int,IntKind.i64.wrap x=(x+9223372036854775808)%18446744073709551616 - 9223372036854775808:=fun x=>IntKind.wrap_i64 x
 have e1:IntKind.i64.wrap ((c:Int).fdiv 2)=((c / 2:Nat):Int):=by rw [hw,Int.fdiv_eq_ediv_of_nonneg _ (by decide)];omega
 rw [show IntKind.i64.bits=64 from rfl,show IntKind.u64.bits=64 from rfl,ha,e1]
 unfold unzig
 by_cases h2:c%2=0
 ·rw [if_pos h2,h2]
  have e2:IntKind.i64.wrap (0 - IntKind.i64.wrap (IntKind.u64.wrap ((0:Nat):Int)))=0:=by rw [hw,hw,wu64];decide
  rw [e2,zgl (by omega),hw];omega
 ·have h3:c%2=1:=by omega
  rw [if_neg h2,h3]
  have e2:IntKind.i64.wrap (0 - IntKind.i64.wrap (IntKind.u64.wrap ((1:Nat):Int)))=-1:=by rw [hw,hw,wu64];decide
  rw [e2,show BitVec.ofInt 64 (-1)=BitVec.allOnes 64 by decide,zgk (by omega),hw];omega
end Go.Proofs.YtjcegdldgjphiaaGreatDoor
namespace Go.Proofs.YtjcegdldgjphiaaGreatDoor
abbrev St:=Option (List UInt8)
def leftN (st:St):Nat:=match st with
 | none=>0
 | some l=>l.length
structure CodE {α:Type} (ok:α→Prop) (enc:α→List UInt8) (rd:St→α×St):Prop where
 bad:(rd none).2=none
 back:∀v,ok v→∀r,rd (some (enc v++r))=(v,some r)
 once:∀s v r,rd (some s)=(v,some r)→s=enc v++r∧ok v
structure Cod {α:Type} (ok:α→Prop) (zero:α) (enc:α→List UInt8) (rd:St→α×St):Prop extends CodE ok enc rd where
 badz:rd none=(zero,none)
 nul:∀s v,rd (some s)=(v,none)→v=zero
section
variable {α:Type} {ok:α→Prop} {zero:α} {enc:α→List UInt8} {rd:St→α×St}
theorem CodE.inj (h:CodE ok enc rd) {v w:α} (hv:ok v) (hw:ok w) {r r':List UInt8} (e:enc v++r=enc w++r'):v=w∧r=r':=by
 have h1:=h.back v hv r
 have h2:=h.back w hw r'
 rw [e,h2] at h1
 injection h1 with a1 a2
 injection a2 with a2
 exact ⟨a1.symm,a2.symm⟩
theorem CodE.cut (h:CodE ok enc rd) {v:α} (hv:ok v) {s t:List UInt8} (e:enc v=s++t) (ht:t≠[]):(rd (some s)).2=none:=by
 cases hr:rd (some s) with
 | mk w st =>
  cases st with
  | none=>rfl
  | some r =>
   obtain ⟨e1,hw⟩:=h.once s w r hr
   have:enc v++[]=enc w++(r++t):=by rw [List.append_nil,e,e1,List.append_assoc]
   have h2:=(h.inj hv hw this).2
   exact absurd (List.append_eq_nil_iff.1 h2.symm).2 ht
end
def InI (n:Int):Prop:=-9223372036854775808≤n∧n<9223372036854775808
def rdI (st:St):Int×St:=match st with
 | none=>(0,none)
 | some l=>match decI l with
  | some x=>(x.1,some x.2)
  | none=>(0,none)
theorem codI:Cod InI 0 encI rdI where
 bad:=rfl
 back v hv r:=by simp only [rdI,zlw hv]
 once s v r h:=by
  simp only [rdI] at h
  split at h
  ·rename_i x hx
   injection h with h1 h2
   injection h2 with h2
   subst h1;subst h2
   exact zlE hx
  ·cases h
 badz:=rfl
 nul s v h:=by
  simp only [rdI] at h
  split at h
  ·cases h
  ·injection h with h1 h2;exact h1.symm
def rdC (st:St):Int×St:=if (rdI st).1<0∨(rdI st).1 > (leftN (rdI st).2:Int) then (0,none) else rdI st
theorem zaR (st:St):0≤(rdC st).1:=by
 unfold rdC
 split
 ·exact Int.le_refl _
 ·rename_i h;omega
def encT (s:List UInt8):List UInt8:=encI s.length++s
def rdT (st:St):List UInt8×St:=match (rdC st).2 with
 | none=>([],none)
 | some l=>(l.take (rdC st).1.toNat,some (l.drop (rdC st).1.toNat))
def LenI (s:List UInt8):Prop:=s.length<9223372036854775808
section
variable {α:Type} {ok:α→Prop} {enc:α→List UInt8} {rd:St→α×St}
def rdN (rd:St→α×St):Nat→List α→St→List α×St
 | 0,o,st=>(o,st)
 | _+1,o,none=>(o,none)
 | n+1,o,some s=>rdN rd n (o++[(rd (some s)).1]) (rd (some s)).2
def encL (enc:α→List UInt8) (l:List α):List UInt8:=encI l.length++l.flatMap enc
def rdL (rd:St→α×St) (st:St):List α×St:=match (rdN rd (rdC st).1.toNat [] (rdC st).2).2 with
 | none=>([],none)
 | some r=>((rdN rd (rdC st).1.toNat [] (rdC st).2).1,some r)
theorem zhj (n:Nat) (o:List α):rdN rd n o none=(o,none):=by cases n<;>rfl
end
abbrev V3:=Int×Int×Int
def encV (v:V3):List UInt8:=encI v.1++encI v.2.1++encI v.2.2
def rdV (st:St):V3×St:=match (rdI (rdI (rdI st).2).2).2 with
 | none=>((0,0,0),none)
 | some r=>(((rdI st).1,(rdI (rdI st).2).1,(rdI (rdI (rdI st).2).2).1),some r)
def InV (v:V3):Prop:=InI v.1∧InI v.2.1∧InI v.2.2
theorem zhh {st:St} {r:List UInt8} (h:(rdI st).2=some r):∃s,st=some s∧s=encI (rdI st).1++r∧InI (rdI st).1:=by
 cases st with
 | none=>cases h
 | some s=>exact ⟨s,rfl,codI.once s _ r (Prod.ext rfl h)⟩
theorem codV:Cod InV (0,0,0) encV rdV where
 bad:=rfl
 back v hv r:=by
  have e1:rdI (some (encV v++r))=(v.1,some (encI v.2.1++(encI v.2.2++r))):=by
   unfold encV
   rw [List.append_assoc,List.append_assoc]
   exact codI.back _ hv.1 _
  simp only [rdV,e1,codI.back _ hv.2.1,codI.back _ hv.2.2]
 once s v r h:=by
  simp only [rdV] at h
  split at h
  ·cases h
  ·rename_i r' hr
   injection h with h1 h2
   injection h2 with h2
   subst h1;subst h2
   obtain ⟨s2,e2,e2',i2⟩:=zhh hr
   obtain ⟨s1,e1,e1',i1⟩:=zhh e2
   obtain ⟨s0,e0,e0',i0⟩:=zhh e1
   injection e0 with e0
   subst e0
   refine ⟨?_,i0,i1,i2⟩
   unfold encV
   rw [e2'] at e1'
   rw [e1'] at e0'
   rw [List.append_assoc,List.append_assoc]
   exact e0'
 badz:=rfl
 nul s v h:=by
  simp only [rdV] at h
  split at h
  ·injection h with h1 _;exact h1.symm
  ·cases h
abbrev Pl:=V3×Int
def encP (p:Pl):List UInt8:=encV p.1++encI p.2
def rdP (st:St):Pl×St:=(((rdV st).1,(rdI (rdV st).2).1),(rdI (rdV st).2).2)
end Go.Proofs.YtjcegdldgjphiaaGreatDoor
namespace Go.Proofs.YtjcegdldgjphiaaGreatDoor
def sumB:List UInt8→Nat
 | []=>0
 | b::r=>b.toNat%128+128*sumB r
theorem zpO (l:List UInt8) (b:UInt8):sumB (l++[b])=sumB l+128 ^ l.length*(b.toNat%128):=by
 induction l with
 | nil=>simp [sumB]
 | cons c l ih =>
  rw [List.cons_append,sumB,ih,sumB,List.length_cons,Nat.pow_succ,Nat.mul_add,Nat.add_assoc]
  congr 2
  rw [Nat.mul_left_comm,← Nat.mul_assoc,Nat.mul_comm (128 ^ l.length) 128,Nat.mul_assoc]
def lowAt (s:List UInt8):Nat:=s.findIdx fun b=>decide (b.toNat<128)
theorem zlN (s:List UInt8):lowAt s≤s.length:=List.findIdx_le_length
theorem zfW (b:UInt8) (s:List UInt8):lowAt (b::s)=if b.toNat<128 then 0 else lowAt s+1:=by
 unfold lowAt
 rw [List.findIdx_cons]
 by_cases h:b.toNat<128
 ·simp [h]
 ·simp [h]
theorem zr0:∀c:Nat,sumB (encN c)=c:=by
 intro c
 induction c using Nat.strongRecOn with
 | _ c ih =>
  by_cases h:c<128
  ·rw [qP h,sumB,zb6 (by omega)];simp [sumB];omega
  ·rw [zbd h,sumB,zb6 (by omega),ih _ (by omega)];omega
theorem zlC (c:Nat):0<(encN c).length:=List.length_pos_iff.2 (zkd c)
theorem zoR:∀(c:Nat) (r:List UInt8),lowAt (encN c++r)=(encN c).length - 1:=by
 intro c
 induction c using Nat.strongRecOn with
 | _ c ih =>
  intro r
  by_cases h:c<128
  ·rw [qP h,List.singleton_append,zfW,zb6 (by omega),if_pos h];rfl
  ·have:=zlC (c / 128)
   rw [zbd h,List.cons_append,zfW,zb6 (by omega),if_neg (by omega),ih _ (by omega),List.length_cons];omega
theorem zlB:∀(j c:Nat),c<128 ^ (j+1)→(encN c).length≤j+1
 | 0,c,h=>by rw [qP (by simpa using h)];simp
 | j+1,c,h=>by
  by_cases h2:c<128
  ·rw [qP h2];simp
  ·rw [zbd h2,List.length_cons]
   have:=zlB j (c / 128) (by rw [Nat.div_lt_iff_lt_mul (by decide)];rw [Nat.pow_succ] at h;exact h)
   omega
theorem zv {n:Int} (h:InI n):(encI n).length≤10:=zlB 9 _ (Nat.lt_trans (zjP h) (by decide))
def refI (s:List UInt8):Option (Int×Nat):=if lowAt s<10∧lowAt s<s.length∧encI (unzig (sumB (s.take (lowAt s+1))%18446744073709551616))=s.take (lowAt s+1) then some (unzig (sumB (s.take (lowAt s+1))%18446744073709551616),lowAt s+1) else none
theorem zrB (s:List UInt8):decI s=(refI s).map fun x=>(x.1,s.drop x.2):=by
 unfold refI
 split
 ·rename_i h
  obtain ⟨h1,h2,h3⟩:=h
  have hlt:sumB (s.take (lowAt s+1))%18446744073709551616<18446744073709551616:=Nat.mod_lt _ (by decide)
  generalize sumB (s.take (lowAt s+1))%18446744073709551616=c at *
  have e:s=encI (unzig c)++s.drop (lowAt s+1):=by rw [h3,List.take_append_drop]
  have:=zlw (zhu hlt) (s.drop (lowAt s+1))
  rw [← e] at this
  exact this
 ·rename_i h
  cases hd:decI s with
  | none=>rfl
  | some x =>
   exfalso
   obtain ⟨n,r⟩:=x
   obtain ⟨e,hr⟩:=zlE hd
   have hl:lowAt s=(encI n).length - 1:=by rw [e];exact zoR _ _
   have hp:0<(encI n).length:=zlC _
   have hlen:=zv hr
   have ht:s.take (lowAt s+1)=encI n:=by rw [hl,show (encI n).length - 1+1=(encI n).length by omega,e,List.take_left]
   have hs:sumB (encI n)%18446744073709551616=zig n:=by
    unfold encI
    rw [zr0,Nat.mod_eq_of_lt (zjP hr)]
   have hsl:s.length=(encI n).length+r.length:=by rw [e,List.length_append]
   exact h ⟨by omega,by omega,by rw [ht,hs,ziF]⟩
theorem zt9 {s:List UInt8} {n:Int} {m:Nat} (h:refI s=some (n,m)):m≤s.length∧InI n:=by
 unfold refI at h
 split at h
 ·rename_i hc
  simp only [Option.some.injEq,Prod.mk.injEq] at h
  obtain ⟨rfl,rfl⟩:=h
  exact ⟨by omega,zhu (Nat.mod_lt _ (by decide))⟩
 ·cases h
abbrev RS:=List UInt8×Nat×Bool
def rst (x:RS):St:=if x.2.2=true then none else some (x.1.drop x.2.1)
def okRS (x:RS):Prop:=x.2.1≤x.1.length
def rleft (x:RS):Nat:=leftN (rst x)
def zBR (x:RS):RS:=(x.1,x.2.1,true)
def rfI (x:RS):Int×RS:=if x.2.2=true then (0,x) else match refI (x.1.drop x.2.1) with
 | some y=>(y.1,(x.1,x.2.1+y.2,false))
 | none=>(0,zBR x)
theorem zbp {x:RS} (h:x.2.2=true):rst x=none:=if_pos h
theorem zbi {x:RS} (h:x.2.2=false):rst x=some (x.1.drop x.2.1):=by unfold rst;rw [h];rfl
theorem zbh (x:RS) (hx:okRS x):((rfI x).1,rst (rfI x).2)=rdI (rst x)∧okRS (rfI x).2∧(rfI x).2.1=x.1:=by
 obtain ⟨s,at_,w⟩:=x
 unfold rfI
 cases w with
 | true=>exact ⟨rfl,hx,rfl⟩
 | false =>
  simp only [Bool.false_eq_true,if_false]
  rw [zbi (x:=(s,at_,false)) rfl]
  have h:=zrB (s.drop at_)
  simp only [rdI,h]
  cases hr:refI (s.drop at_) with
  | none=>exact ⟨rfl,hx,rfl⟩
  | some y =>
   obtain ⟨n,m⟩:=y
   have hle:=(zt9 hr).1
   rw [List.length_drop] at hle
   refine ⟨?_,?_,rfl⟩
   ·simp only [Option.map_some,rst,Bool.false_eq_true,if_false,List.drop_drop]
   ·have hx':at_≤s.length:=hx
    show at_+m≤s.length
    omega
def rfC (x:RS):Int×RS:=if (rfI x).1<0∨(rfI x).1 > (rleft (rfI x).2:Int) then (0,zBR (rfI x).2) else rfI x
theorem zf8 (x:RS) (hx:okRS x):((rfC x).1,rst (rfC x).2)=rdC (rst x)∧okRS (rfC x).2:=by
 obtain ⟨h1,h2,_⟩:=zbh x hx
 unfold rfC rdC rleft
 rw [← h1]
 simp only
 split
 ·exact ⟨rfl,h2⟩
 ·exact ⟨rfl,h2⟩
def rfT (x:RS):List UInt8×RS:=if (rfC x).2.2.2=true then ([],(rfC x).2) else (((rfC x).2.1.drop (rfC x).2.2.1).take (rfC x).1.toNat,((rfC x).2.1,(rfC x).2.2.1+(rfC x).1.toNat,false))
theorem zcI (st:St):(rdC st).1.toNat≤leftN (rdC st).2:=by
 unfold rdC
 split
 ·exact Nat.zero_le _
 ·rename_i h;omega
theorem zf9 (x:RS) (hx:okRS x):((rfT x).1,rst (rfT x).2)=rdT (rst x)∧okRS (rfT x).2:=by
 obtain ⟨h1,h2⟩:=zf8 x hx
 have hle:=zcI (rst x)
 rw [← h1] at hle
 unfold rfT rdT
 rw [← h1]
 simp only at hle ⊢
 cases hw:(rfC x).2.2.2 with
 | true =>
  rw [if_pos rfl,zbp hw]
  exact ⟨rfl,h2⟩
 | false =>
  rw [zbi hw] at hle ⊢
  have hle':(rfC x).1.toNat≤(rfC x).2.1.length - (rfC x).2.2.1:=by
   have h3:(rfC x).1.toNat≤((rfC x).2.1.drop (rfC x).2.2.1).length:=hle
   rwa [List.length_drop] at h3
  refine ⟨?_,?_⟩
  ·simp only [Bool.false_eq_true,if_false,rst,List.drop_drop]
  ·have h3:(rfC x).2.2.1≤(rfC x).2.1.length:=h2
   show (rfC x).2.2.1+(rfC x).1.toNat≤(rfC x).2.1.length
   omega
section
variable {α:Type} (rd:St→α×St) (rf:RS→α×RS)
def rfN:Nat→List α→RS→List α×RS
 | 0,o,x=>(o,x)
 | n+1,o,x=>if x.2.2=true then (o,x) else rfN n (o++[(rf x).1]) (rf x).2
def rfL (x:RS):List α×RS:=if (rfN rf (rfC x).1.toNat [] (rfC x).2).2.2.2=true then ([],(rfN rf (rfC x).1.toNat [] (rfC x).2).2) else rfN rf (rfC x).1.toNat [] (rfC x).2
variable {rd rf} (h:∀x,okRS x→((rf x).1,rst (rf x).2)=rd (rst x)∧okRS (rf x).2)
include h
theorem zs1:∀(n:Nat) (o:List α) (x:RS),okRS x→((rfN rf n o x).1,rst (rfN rf n o x).2)=rdN rd n o (rst x)∧okRS (rfN rf n o x).2
 | 0,o,x,hx=>⟨rfl,hx⟩
 | n+1,o,x,hx=>by
  rw [rfN]
  cases hw:x.2.2 with
  | true =>
   rw [if_pos rfl,zbp hw,zhj]
   exact ⟨rfl,hx⟩
  | false =>
   obtain ⟨h1,h2⟩:=h x hx
   rw [if_neg (by decide),zbi hw,rdN,← zbi hw,← h1]
   exact zs1 n _ _ h2
theorem zd9 (x:RS) (hx:okRS x):((rfL rf x).1,rst (rfL rf x).2)=rdL rd (rst x)∧okRS (rfL rf x).2:=by
 obtain ⟨h1,h2⟩:=zf8 x hx
 unfold rfL rdL
 rw [← h1]
 obtain ⟨h3,h4⟩:=zs1 h (rfC x).1.toNat [] (rfC x).2 h2
 simp only
 rw [← h3]
 simp only
 cases hw:(rfN rf (rfC x).1.toNat [] (rfC x).2).2.2.2 with
 | true =>
  rw [if_pos rfl]
  simp only [zbp hw]
  exact ⟨trivial,h4⟩
 | false =>
  rw [if_neg (by decide)]
  simp only [zbi hw]
  exact ⟨trivial,h4⟩
end
def rfV (x:RS):V3×RS:=if (rfI (rfI (rfI x).2).2).2.2.2=true then ((0,0,0),(rfI (rfI (rfI x).2).2).2) else (((rfI x).1,(rfI (rfI x).2).1,(rfI (rfI (rfI x).2).2).1),(rfI (rfI (rfI x).2).2).2)
theorem zga (x:RS) (hx:okRS x):((rfV x).1,rst (rfV x).2)=rdV (rst x)∧okRS (rfV x).2:=by
 obtain ⟨h1,h2,_⟩:=zbh x hx
 obtain ⟨h3,h4,_⟩:=zbh _ h2
 obtain ⟨h5,h6,_⟩:=zbh _ h4
 unfold rfV rdV
 rw [← h1]
 simp only
 rw [← h3]
 simp only
 rw [← h5]
 simp only
 cases hw:(rfI (rfI (rfI x).2).2).2.2.2 with
 | true =>
  rw [if_pos rfl]
  simp only [zbp hw]
  exact ⟨trivial,h6⟩
 | false =>
  rw [if_neg (by decide)]
  simp only [zbi hw]
  exact ⟨trivial,h6⟩
def rfP (x:RS):Pl×RS:=(((rfV x).1,(rfI (rfV x).2).1),(rfI (rfV x).2).2)
theorem zl2 (x:RS) (hx:okRS x):((rfP x).1,rst (rfP x).2)=rdP (rst x)∧okRS (rfP x).2:=by
 obtain ⟨h1,h2⟩:=zga x hx
 obtain ⟨h3,h4,_⟩:=zbh _ h2
 unfold rfP rdP
 rw [← h1]
 simp only
 rw [← h3]
 exact ⟨rfl,h4⟩
end Go.Proofs.YtjcegdldgjphiaaGreatDoor
namespace Go.Proofs.YtjcegdldgjphiaaGreatDoor
open Go.RowKit
inductive ALf where
 | d (p:Pred)
 | p (i o:Nat)
 | q (f:FuncId) (l:List (Nat×Nat))
 | m (f:FuncId) (i o:Nat)
inductive ACm where
 | c (l:ALf)
 | g (l:List ALf)
inductive ASh where
 | o (c:ACm)
 | t (l:List ACm)
def apts (qs:List Nat):List (Nat×Nat)→List Value→Prop
 | [],[]=>True
 | x::xs,v::vs=>(∃q,qs[x.1]?=some q∧v=.pointer (some ⟨q,x.2,none⟩))∧apts qs xs vs
 | _,_=>False
def ALf.ok (qs:List Nat):ALf→Value→World→Dat→Prop
 | .d x,v,W,D=>x v W D
 | .p i o,v,_,_=>∃q,qs[i]?=some q∧v=.pointer (some ⟨q,o,none⟩)
 | .q f l,v,_,_=>∃cs:Array Value,v=.func (.func f) #[] cs∧apts qs l cs.toList
 | .m f i o,v,_,_=>∃q,qs[i]?=some q∧v=.func (.func f) #[.pointer (some ⟨q,o,none⟩)] #[]
def aokl (qs:List Nat):List ALf→List Value→World→Dat→Prop
 | [],[],_,_=>True
 | p::ps,v::vs,W,D=>p.ok qs v W D∧aokl qs ps vs W D
 | _,_,_,_=>False
def ACm.ok (qs:List Nat):ACm→Value→World→Dat→Prop
 | .c l,v,W,D=>l.ok qs v W D
 | .g ls,v,W,D=>∃vs:Array Value,v=.agg vs∧aokl qs ls vs.toList W D
def aokc (qs:List Nat):List ACm→List Value→World→Dat→Prop
 | [],[],_,_=>True
 | p::ps,v::vs,W,D=>p.ok qs v W D∧aokc qs ps vs W D
 | _,_,_,_=>False
def ASh.ok (qs:List Nat):ASh→Value→World→Dat→Prop
 | .o c,v,W,D=>c.ok qs v W D
 | .t l,v,W,D=>∃vs:Array Value,v=.tuple vs∧aokc qs l vs.toList W D
def aoka (qs:List Nat):List ASh→List Value→World→Dat→Prop
 | [],[],_,_=>True
 | p::ps,v::vs,W,D=>p.ok qs v W D∧aoka qs ps vs W D
 | _,_,_,_=>False
def okX (K:Kit) (qs:List Nat):List (TypeId×List ALf)→List Nat→World→Dat→Prop
 | [],[],_,_=>True
 | x::xs,q::r,W,D=>(K.w0.heap.size≤q∧¬ D q∧K.bt x.1=true∧∃us:Array Value,W.heap[q]?=some (.cells us x.1 (0,0))∧us.toList.all K.ck=true∧aokl qs x.2 us.toList W D)∧okX K qs xs r W D
 | _,_,_,_=>False
def ixOf:List Nat→Nat→Nat
 | [],_=>0
 | c::r,b=>match Nat.beq b c with
  | true=>0
  | false=>ixOf r b+1
def Lf.toA (bs:List Nat) (F:Fact):Lf→ALf
 | .k v=>.d (pV v)
 | .h n=>.d (F.c n)
 | .p b o=>.p (ixOf bs b) o
 | .q f l=>.q f (l.map fun x=>(ixOf bs x.1,x.2))
 | .m f b o=>.m f (ixOf bs b) o
 | _=>.d fun _ _ _=>False
def Cm.toA (bs:List Nat) (F:Fact):Cm→ACm
 | .c l=>.c (l.toA bs F)
 | .g l=>.g (l.map (Lf.toA bs F))
def Sh.toA (bs:List Nat) (F:Fact):Sh→ASh
 | .o c=>.o (c.toA bs F)
 | .t l=>.t (l.map (Cm.toA bs F))
def Atom.toX (bs:List Nat) (F:Fact):Atom→TypeId×List ALf
 | .bx _ T ls=>(T,ls.map (Lf.toA bs F))
 | _=>(0,[])
def Lf.lowX (bs:List Nat):Lf→Bool
 | .p b _=>bs.contains b
 | .q _ l=>l.all fun x=>bs.contains x.1
 | .m _ b _=>bs.contains b
 | .s _ _ _ _=>false
 | .gr _=>false
 | _=>true
def Cm.lowX (bs:List Nat):Cm→Bool
 | .c l=>l.lowX bs
 | .g l=>l.all (Lf.lowX bs)
def Sh.lowX (bs:List Nat):Sh→Bool
 | .o c=>c.lowX bs
 | .t l=>l.all (Cm.lowX bs)
def Atom.lowX (bs:List Nat):Atom→Bool
 | .bx _ _ ls=>ls.all (Lf.lowX bs)
 | _=>false
theorem zc8:∀{bs:List Nat} {b:Nat},b∈bs→bs[ixOf bs b]?=some b
 | c::r,b,h=>by
  show (c::r)[(match Nat.beq b c with | true=>0 | false=>ixOf r b+1)]?=some b
  cases hb:Nat.beq b c with
  | true=>rw [Nat.eq_of_beq_eq_true hb];rfl
  | false =>
   have:b≠c:=Nat.ne_of_beq_eq_false hb
   rcases List.mem_cons.1 h with h | h
   ·exact absurd h this
   ·simpa using zc8 h
section
variable {K:Kit} {F:Fact} {β:Loc} {W:World} {bs qs:List Nat} (H:∀b∈bs,β b=qs[ixOf bs b]?)
include H
theorem zlm:∀{l:List (Nat×Nat)} {vs:List Value},(l.all fun x=>bs.contains x.1)=true→(pts β l vs↔apts qs (l.map fun x=>(ixOf bs x.1,x.2)) vs)
 | [],[],_=>Iff.rfl
 | x::xs,v::vs,h=>by
  rw [List.all_cons,Bool.and_eq_true] at h
  refine and_congr ?_ (zlm h.2)
  rw [H x.1 (by simpa using h.1)]
 | [],_::_,_=>Iff.rfl
 | _::_,[],_=>Iff.rfl
theorem zpS {l:Lf} {v:Value} (h:l.lowX bs=true):l.ok F β v W↔(l.toA bs F).ok qs v W β.D:=by
 cases l with
 | k x=>exact Iff.rfl
 | h n=>exact Iff.rfl
 | p b o =>
  show (∃q,β b=some q∧_)↔∃q,qs[ixOf bs b]?=some q∧_
  rw [H b (by simpa [Lf.lowX] using h)]
 | s b o n c=>cases h
 | q f l=>exact exists_congr fun cs=>and_congr_right fun _=>zlm H h
 | m f b o =>
  show (∃q,β b=some q∧_)↔∃q,qs[ixOf bs b]?=some q∧_
  rw [H b (by simpa [Lf.lowX] using h)]
 | gr b=>cases h
theorem zer:∀{ls:List Lf} {vs:List Value},ls.all (Lf.lowX bs)=true→(oks F β ls vs W↔aokl qs (ls.map (Lf.toA bs F)) vs W β.D)
 | [],[],_=>Iff.rfl
 | l::ls,v::vs,h=>by
  rw [List.all_cons,Bool.and_eq_true] at h
  exact and_congr (zpS H h.1) (zer h.2)
 | [],_::_,_=>Iff.rfl
 | _::_,[],_=>Iff.rfl
theorem znV {c:Cm} {v:Value} (h:c.lowX bs=true):c.ok F β v W↔(c.toA bs F).ok qs v W β.D:=by
 cases c with
 | c l=>exact zpS H h
 | g l=>exact exists_congr fun vs=>and_congr_right fun _=>zer H h
theorem zlu:∀{ls:List Cm} {vs:List Value},ls.all (Cm.lowX bs)=true→(cms F β ls vs W↔aokc qs (ls.map (Cm.toA bs F)) vs W β.D)
 | [],[],_=>Iff.rfl
 | l::ls,v::vs,h=>by
  rw [List.all_cons,Bool.and_eq_true] at h
  exact and_congr (znV H h.1) (zlu h.2)
 | [],_::_,_=>Iff.rfl
 | _::_,[],_=>Iff.rfl
theorem zjQ {s:Sh} {v:Value} (h:s.lowX bs=true):s.ok F β v W↔(s.toA bs F).ok qs v W β.D:=by
 cases s with
 | o c=>exact znV H h
 | t l=>exact exists_congr fun vs=>and_congr_right fun _=>zlu H h
theorem zhp:∀{ls:List Sh} {vs:List Value},ls.all (Sh.lowX bs)=true→(shs F β ls vs W↔aoka qs (ls.map (Sh.toA bs F)) vs W β.D)
 | [],[],_=>Iff.rfl
 | l::ls,v::vs,h=>by
  rw [List.all_cons,Bool.and_eq_true] at h
  exact and_congr (zjQ H h.1) (zhp h.2)
 | [],_::_,_=>Iff.rfl
 | _::_,[],_=>Iff.rfl
theorem zo4:∀{pre:List Atom} {rs:List Nat},pre.all (Atom.lowX bs)=true→(names pre).map β.bx=rs.map some→(∀q∈rs,¬ β.D q)→(∀x∈pre,x.okB K F β W)→okX K qs (pre.map (Atom.toX bs F)) rs W β.D
 | [],[],_,_,_,_=>trivial
 | .bx b T ls::r,q::rs,hl,hn,hd,h=>by
  rw [List.all_cons,Bool.and_eq_true] at hl
  simp only [names,List.map_cons,List.cons.injEq] at hn
  obtain ⟨q',us,h1,h2,h3,h4,h5,h6⟩:=h _ (List.mem_cons_self ..)
  have e:q'=q:=Option.some.inj (h1.symm.trans hn.1)
  subst e
  exact ⟨⟨h6,hd _ (List.mem_cons_self ..),h5,us,h2,h4,(zer H hl.1).1 h3⟩,zo4 hl.2 hn.2 (fun q hq=>hd q (List.mem_cons_of_mem _ hq)) fun x hx=>h x (List.mem_cons_of_mem _ hx)⟩
 | [],_::_,_,hn,_,_=>by simp [names] at hn
 | _::_,[],_,hn,_,_=>by simp [names] at hn
 | .sl _ _::_,_::_,hl,_,_,_=>by simp [Atom.lowX] at hl
 | .gl _ _ _ _::_,_::_,hl,_,_,_=>by simp [Atom.lowX] at hl
 | .gn _::_,_::_,hl,_,_,_=>by simp [Atom.lowX] at hl
theorem zeP:∀{pre:List Atom} {rs:List Nat},pre.all (Atom.lowX bs)=true→(names pre).map β.bx=rs.map some→okX K qs (pre.map (Atom.toX bs F)) rs W β.D→∀x∈pre,x.okB K F β W
 | [],[],_,_,_=>fun x hx=>by cases hx
 | .bx b T ls::r,q::rs,hl,hn,h=>by
  rw [List.all_cons,Bool.and_eq_true] at hl
  simp only [names,List.map_cons,List.cons.injEq] at hn
  obtain ⟨⟨h6,_,h5,us,h2,h4,h3⟩,h7⟩:=h
  intro x hx
  rcases List.mem_cons.1 hx with rfl | hx
  ·exact ⟨q,us,hn.1,h2,(zer H hl.1).2 h3,h4,h5,h6⟩
  ·exact zeP hl.2 hn.2 h7 x hx
 | [],_::_,_,hn,_=>by simp [names] at hn
 | _::_,[],_,hn,_=>by simp [names] at hn
 | .sl _ _::_,_::_,hl,_,_=>by simp [Atom.lowX] at hl
 | .gl _ _ _ _::_,_::_,hl,_,_=>by simp [Atom.lowX] at hl
 | .gn _::_,_::_,hl,_,_=>by simp [Atom.lowX] at hl
end
theorem zo3 {K:Kit} {qs:List Nat} {W:World} {D:Dat}:∀{l:List (TypeId×List ALf)} {rs:List Nat},okX K qs l rs W D→rs.length=l.length
 | [],[],_=>rfl
 | _::_,_::_,h=>by rw [List.length_cons,List.length_cons,zo3 h.2]
 | [],_::_,h=>h.elim
 | _::_,[],h=>h.elim
theorem zg9 {K:Kit} {qs:List Nat} {W:World} {D:Dat}:∀{l:List (TypeId×List ALf)} {rs:List Nat},okX K qs l rs W D→∀q∈rs,K.w0.heap.size≤q∧¬ D q∧q<W.heap.size
 | [],[],_,q,hq=>by cases hq
 | _::_,_::_,h,q,hq=>by
  rcases List.mem_cons.1 hq with rfl | hq
  ·obtain ⟨h1,h2,_,us,h3,_⟩:=h.1
   exact ⟨h1,h2,(Array.getElem?_eq_some_iff.1 h3).1⟩
  ·exact zg9 h.2 q hq
 | [],_::_,h,_,_=>h.elim
 | _::_,[],h,_,_=>h.elim
structure KeptX (qs:List Nat) (W:World) (D:Dat) (W':World) (D':Dat):Prop where
 oth:Oth (fun q=>q∈qs) W W'
 dm:∀q,D q→D' q
 dn:∀q,D' q→D q∨W.heap.size≤q
 dlt:∀q,D' q→q<W'.heap.size
def endOf (pan:Bool) (v:Value):Ending:=if pan=true then .panicked [{ v,recovered:=false }] else .returned v
def BFun (pan:Bool) (K:Kit) (P:Program) (f:FuncId) (az:List ASh) (pre:List (TypeId×List ALf)) (res:ASh) (post:List (TypeId×List ALf)):Prop:=
 ∀(W:World) (D:Dat) (vs:List Value) (qs:List Nat),qs.Nodup→aoka qs az vs W D→okX K qs pre qs W D→Fit K W D →
  Calls P f vs.toArray W fun e W'=>∃v D',e=endOf pan v∧res.ok qs v W' D'∧okX K qs post qs W' D'∧KeptX qs W D W' D'
theorem zdL {bs:List Nat}:∀{l:List Atom},l.all (Atom.lowX bs)=true→qY l=[]
 | [],_=>rfl
 | .bx b T ls::r,h=>by
  rw [List.all_cons,Bool.and_eq_true] at h
  exact zdL (l:=r) h.2
 | .sl _ _::_,h=>by simp [Atom.lowX] at h
 | .gl _ _ _ _::_,h=>by simp [Atom.lowX] at h
 | .gn _::_,h=>by simp [Atom.lowX] at h
theorem zoM {bs:List Nat}:∀{l:List Atom},l.all (Atom.lowX bs)=true→l.all Atom.isB=true
 | [],_=>rfl
 | .bx b T ls::r,h=>by
  rw [List.all_cons,Bool.and_eq_true] at h
  rw [List.all_cons,zoM (l:=r) h.2];rfl
 | .sl _ _::_,h=>by simp [Atom.lowX] at h
 | .gl _ _ _ _::_,h=>by simp [Atom.lowX] at h
 | .gn _::_,h=>by simp [Atom.lowX] at h
def lowB (az:List Sh) (pre:List Atom) (res:Sh) (post:List Atom):Bool:=decide (names pre).Nodup && (names post == names pre) && az.all (Sh.lowX (names pre)) && pre.all (Atom.lowX (names pre)) && res.lowX (names pre) && post.all (Atom.lowX (names pre))
theorem zcb {bs qs:List Nat} {g:Nat→Option Nat} (hl:qs.length=bs.length) (hn:bs.Nodup) (H:∀b∈bs,g b=qs[ixOf bs b]?):bs.map g=qs.map some:=by
 apply List.ext_getElem?
 intro i
 rw [List.getElem?_map,List.getElem?_map]
 cases hb:bs[i]? with
 | none =>
  have:bs.length≤i:=List.getElem?_eq_none_iff.1 hb
  rw [List.getElem?_eq_none (by omega)];rfl
 | some b =>
  have hm:b∈bs:=List.mem_of_getElem? hb
  have h1:=zc8 hm
  have hi:i<bs.length:=(List.getElem?_eq_some_iff.1 hb).1
  have h2:ixOf bs b=i:=by
   have hj:ixOf bs b<bs.length:=(List.getElem?_eq_some_iff.1 h1).1
   exact (List.getElem?_inj hj hn).1 (h1.trans hb.symm)
  rw [Option.map_some,H b hm,h2,List.getElem?_eq_getElem (show i<qs.length by omega)];rfl
section
variable {K:Kit} {P:Program} {F:Fact} {f:FuncId} {az:List Sh} {pre:List Atom} {res:Sh} {post:List Atom} {pan:Bool}
theorem con_b {as0:List ASh} {pre0:List (TypeId×List ALf)} {res0:ASh} {post0:List (TypeId×List ALf)} (h:zeu K P F pan ⟨f,az,pre,res,post⟩) (hl:lowB az pre res post=true:=by kernel_rfl)
  (ha:az.map (Sh.toA (names pre) F)=as0:=by rfl) (hp:pre.map (Atom.toX (names pre) F)=pre0:=by rfl) (hr:res.toA (names pre) F=res0:=by rfl) (hq:post.map (Atom.toX (names pre) F)=post0:=by rfl):BFun pan K P f as0 pre0 res0 post0:=by
 subst ha;subst hp;subst hr;subst hq
 unfold lowB at hl
 simp only [Bool.and_eq_true,beq_iff_eq,decide_eq_true_eq] at hl
 obtain ⟨⟨⟨⟨⟨hnd,hnames⟩,hla⟩,hlp⟩,hlr⟩,hlq⟩:=hl
 obtain ⟨bs,hbs⟩:∃bs,names pre=bs:=⟨_,rfl⟩
 rw [hbs] at hnd hnames hla hlp hlr hlq ⊢
 intro W D vs qs hqn hargs hpre hfit
 let β:Loc:=⟨fun b=>if b∈bs then qs[ixOf bs b]? else none,fun _=>(0,0),D⟩
 have H:∀b∈bs,β b=qs[ixOf bs b]?:=fun b hb=>if_pos hb
 have H':∀b q,β b=some q→b∈bs∧qs[ixOf bs b]?=some q:=by
  intro b q hq
  by_cases hb:b∈bs
  ·exact ⟨hb,by rw [← H b hb];exact hq⟩
  ·have:β b=none:=if_neg hb
   rw [this] at hq;cases hq
 have hlen:qs.length=bs.length:=by rw [zo3 hpre,List.length_map,← hbs,names,List.length_map]
 have hmap:(names pre).map β.bx=qs.map some:=by rw [hbs];exact zcb hlen hnd H
 have hmem:∀b q,β b=some q→q∈qs:=fun b q hq=>List.mem_of_getElem? (H' b q hq).2
 have hg:Geo K β W:=by
  refine ⟨fun b q hq=>(zg9 hpre q (hmem b q hq)).2.2,fun b c q hb hc=>?_,hfit.bel,fun b q hq=>(zg9 hpre q (hmem b q hq)).2.1,hfit.dlt⟩
  obtain ⟨b1,b2⟩:=H' b q hb
  obtain ⟨c1,c2⟩:=H' c q hc
  have e:ixOf bs b=ixOf bs c:=(List.getElem?_inj (List.getElem?_eq_some_iff.1 b2).1 hqn).1 (b2.trans c2.symm)
  have:=zc8 b1
  rw [e,zc8 c1] at this
  exact (Option.some.inj this).symm
 have hs:Calls P f vs.toArray W fun e W'=>∃v β',e=endOf pan v∧Back K F ⟨f,az,pre,res,post⟩ β W v β' W':=by
  have h1:=(zhp (F:=F) (W:=W) H hla).2 hargs
  have h2:=zeP (F:=F) H hlp hmap hpre
  cases pan with
  | true=>exact h.2 β W vs h1 h2 hg
  | false=>exact h.2 β W vs h1 h2 hg
 refine hs.mono fun e W' hr=>?_
 obtain ⟨v,β',rfl,hb⟩:=hr
 have hgl:qY pre=[]:=zdL hlp
 have hsame:∀b,β' b=β b:=fun b=>(hb.eqv b (by show b ∉ qY pre;rw [hgl];simp)).1
 have H2:∀b∈bs,β' b=qs[ixOf bs b]?:=fun b hb=>(hsame b).trans (H b hb)
 have hmap2:(names post).map β'.bx=qs.map some:=by rw [hnames];exact zcb hlen hnd H2
 refine ⟨v,β'.D,rfl,(zjQ H2 hlr).1 hb.res,zo4 H2 hlq hmap2 (fun q hq=>?_) hb.post,⟨hb.oth.mono fun q ⟨b,_,hq⟩=>hmem b q hq,hb.dm,hb.dn,hb.geo.dlt⟩⟩
 have:some q∈(names post).map β'.bx:=by rw [hmap2];exact List.mem_map_of_mem hq
 obtain ⟨b,_,hbq⟩:=List.mem_map.1 this
 exact hb.geo.dis b q hbq
theorem b_con {as0:List ASh} {pre0:List (TypeId×List ALf)} {res0:ASh} {post0:List (TypeId×List ALf)} (h:BFun pan K P f as0 pre0 res0 post0) (hl:lowB az pre res post=true:=by kernel_rfl)
  (ha:az.map (Sh.toA (names pre) F)=as0:=by rfl) (hp:pre.map (Atom.toX (names pre) F)=pre0:=by rfl) (hr:res.toA (names pre) F=res0:=by rfl) (hq:post.map (Atom.toX (names pre) F)=post0:=by rfl):zeu K P F pan ⟨f,az,pre,res,post⟩:=by
 subst ha;subst hp;subst hr;subst hq
 unfold lowB at hl
 simp only [Bool.and_eq_true,beq_iff_eq,decide_eq_true_eq] at hl
 obtain ⟨⟨⟨⟨⟨hnd,hnames⟩,hla⟩,hlp⟩,hlr⟩,hlq⟩:=hl
 obtain ⟨bs,hbs⟩:∃bs,names pre=bs:=⟨_,rfl⟩
 rw [hbs] at hnd hnames hla hlp hlr hlq h
 have hgl:qY pre=[]:=zdL hlp
 have key:∀(β:Loc) (W:World) (vs:List Value),shs F β az vs W→(∀x∈pre,x.okB K F β W)→Geo K β W→Calls P f vs.toArray W fun e W'=>∃v β',e=endOf pan v∧Back K F ⟨f,az,pre,res,post⟩ β W v β' W':=by
  intro β W vs hargs hboxes hg
  let qs:List Nat:=bs.map fun b=>(β b).getD 0
  have hlen:qs.length=bs.length:=by simp [qs]
  have hat:∀b∈bs,∃q,β b=some q:=by
   intro b hb
   rw [← hbs] at hb
   obtain ⟨A,hA,rfl⟩:=List.mem_map.1 hb
   have h1:=hboxes A hA
   have h2:=List.all_eq_true.1 hlp A hA
   cases A with
   | bx b T ls=>obtain ⟨q,_,hq,_⟩:=h1;exact ⟨q,hq⟩
   | _=>simp [Atom.lowX] at h2
  have H:∀b∈bs,β b=qs[ixOf bs b]?:=by
   intro b hb
   obtain ⟨q,hq⟩:=hat b hb
   simp only [qs,List.getElem?_map,zc8 hb,Option.map_some,hq,Option.getD_some]
  have hmap:(names pre).map β.bx=qs.map some:=by rw [hbs];exact zcb hlen hnd H
  have hback:∀q∈qs,∃b∈names pre,β b=some q:=by
   intro q hq
   have:some q∈(names pre).map β.bx:=by rw [hmap];exact List.mem_map_of_mem hq
   obtain ⟨b,hb,hbq⟩:=List.mem_map.1 this
   exact ⟨b,hb,hbq⟩
  have hqn:qs.Nodup:=by
   rw [List.Nodup,List.pairwise_map]
   refine hnd.imp_of_mem ?_
   intro b c hb hc hne e
   obtain ⟨q,hq⟩:=hat b hb
   obtain ⟨r,hr⟩:=hat c hc
   rw [hq,hr,Option.getD_some,Option.getD_some] at e
   subst e
   exact hne (hg.inj b c q hq hr)
  refine (h W β.D vs qs hqn ((zhp (F:=F) (W:=W) H hla).1 hargs) (zo4 (F:=F) H hlp hmap (fun q hq=>?_) hboxes) ⟨hg.bel,hg.dlt⟩).mono fun e W' hr=>?_
  ·obtain ⟨b,_,hb⟩:=hback q hq
   exact hg.dis b q hb
  ·obtain ⟨v,D',rfl,hres,hpost,hk⟩:=hr
   let β':Loc:=⟨β.bx,β.len,D'⟩
   have H2:∀b∈bs,β' b=qs[ixOf bs b]?:=H
   have hmap2:(names post).map β'.bx=qs.map some:=by rw [hnames,← hbs];exact hmap
   have hge:∀q,q∈qs→K.w0.heap.size≤q:=fun q hq=>(zg9 hpost q hq).1
   refine ⟨v,β',rfl,(zjQ (β:=β') H2 hlr).2 hres,hk.oth.mono fun q hq=>hback q hq,zeP (β:=β') H2 hlq hmap2 hpost,fun b _=>⟨rfl,rfl⟩,hk.dm,hk.dn,fun b hb=>by (rw [show qY (Con.mk f az pre res post).pre=[] from hgl] at hb;cases hb),⟨fun b q hq=>Nat.lt_of_lt_of_le (hg.lt b q hq) hk.oth.size,hg.inj,hg.bel.trans (hk.oth.ofOth hge hg.bel.size),fun b q hq hD=>?_,hk.dlt⟩⟩
   rcases hk.dn q hD with h1 | h1
   ·exact hg.dis b q hq h1
   ·have:=hg.lt b q hq;omega
 unfold zeu
 split
 ·rename_i hp
  subst hp
  exact ⟨zoM hlp,key⟩
 ·rename_i hp
  have hp:pan=false:=by simpa using hp
  subst hp
  exact ⟨zoM hlp,key⟩
theorem BFun.imp {as0:List ASh} {pre0:List (TypeId×List ALf)} {res0 res1:ASh} {post0 post1:List (TypeId×List ALf)} (h:BFun pan K P f as0 pre0 res0 post0) (hr:∀qs v W D,res0.ok qs v W D→res1.ok qs v W D) (hq:∀qs W D,okX K qs post0 qs W D→okX K qs post1 qs W D):BFun pan K P f as0 pre0 res1 post1:=
 fun W D vs qs h0 h1 h2 h3=>(h W D vs qs h0 h1 h2 h3).mono fun _ _ ⟨v,D',e,a1,a2,a3⟩=>⟨v,D',e,hr _ _ _ _ a1,hq _ _ _ a2,a3⟩
end
theorem BFun.fin {K:Kit} {P:Program} {f:Nat} {pan:Bool} {az:List ASh} {pre post:List (TypeId×List ALf)} {r r2:ASh} (h:BFun pan K P f az pre r post) (hr:∀qs v W D,r.ok qs v W D→r2.ok qs v W D):BFun pan K P f az pre r2 post:=BFun.imp h hr (fun _ _ _ h=>h)
end Go.Proofs.YtjcegdldgjphiaaGreatDoor
