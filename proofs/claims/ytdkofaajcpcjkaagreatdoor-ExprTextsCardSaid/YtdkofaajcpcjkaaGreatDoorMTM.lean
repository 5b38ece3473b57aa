/-
  Merged: ExL.
-/
import Derived.Test.YtdkofaajcpcjkaaGreatDoorMTH
import Derived.Test.YtdkofaajcpcjkaaGreatDoorMTJ
import Derived.Test.YtdkofaajcpcjkaaGreatDoorMTK
import Derived.Test.YtdkofaajcpcjkaaGreatDoorMTL
import Derived.Lib.AtoiAllCases
set_option linter.unusedSimpArgs false
set_option linter.unusedVariables false
set_option maxRecDepth 100000
namespace Go.Proofs.YtdkofaajcpcjkaaGreatDoor
open Go.RowKit Go.Shelf Go.Sort
def cOp (x:List UInt8×Int):List Pred:=[pS x.1,pI x.2]
theorem qb (x:List UInt8×Int):(cOp x).length=2:=rfl
theorem zv {K:Kit} (hK:K.bad .i64=false) (x:List UInt8×Int):FineAll K (cOp x):=⟨za,za (by simp [Kit.ck,ckf,hK]),trivial⟩
def opsL:List (List UInt8×Int):=[([43],3),([45],4),([42],5),([109,105,110],6),([109,97,120],7)]
structure LibT (w0:World):Prop where
 pow : ∀ W, Below w0.heap.size w0 W → Lib.TabIs Tryz.prog W "internal/strconv.uint64pow10" .u64 Lib.pow10Tab
 syn:∀W,Below w0.heap.size w0 W→∃ev,W.cell? ⟨2,0,none⟩=some ev∧(ev=.nilIface∨∃te pe,ev=.iface te pe)
 rng:∀W,Below w0.heap.size w0 W→∃ev,W.cell? ⟨3,0,none⟩=some ev∧(ev=.nilIface∨∃te pe,ev=.iface te pe)
 ops:∃v,w0.cell? ⟨0,0,none⟩=some v∧pLs cOp opsL v w0 fun q=>q<w0.heap.size
theorem Kept.of {K:Kit} {W W':World} {D:Dat} (hf:Fit K W D) (h:Below W.heap.size W W'):Kept W D W' D:=⟨h,fun _ h=>h,fun _ h=>.inl h,fun q hq=>Nat.lt_of_lt_of_le (hf.dlt q hq) h.size⟩
theorem oka1 {p:PSh} {vs:List Value} {W:World} {D:Dat} (h:oka [p] vs W D):∃v,vs=[v]∧p.ok v W D:=by
 match vs,h with
 | [v],h=>exact ⟨v,rfl,h.1⟩
 | [],h=>exact h.elim
 | _::_::_,h=>exact h.2.elim
theorem oka2 {p q:PSh} {vs:List Value} {W:World} {D:Dat} (h:oka [p,q] vs W D):∃v u,vs=[v,u]∧p.ok v W D∧q.ok u W D:=by
 match vs,h with
 | [v,u],h=>exact ⟨v,u,rfl,h.1,h.2.1⟩
 | [],h=>exact h.elim
 | [_],h=>exact h.2.elim
 | _::_::_::_,h=>exact h.2.2.elim
theorem zdc {w0:World} (hL:LibT w0) {F:Fact} {o:Lf} (ho:Says F o (pLs cOp opsL)):(Ent.op (.ld 56) [LF (.k (.pointer (some ⟨0,0,none⟩)))] [] (LF o)).sound (KN w0) Tryz.prog F:=by
 intro β W vs hs _ hg
 match vs,hs with
 | [v],⟨h1,_⟩ =>
  have hv:v=.pointer (some ⟨0,0,none⟩):=h1
  subst hv
  obtain ⟨u,hc,hu⟩:=hL.ops
  have hlt:0<w0.heap.size:=by
   rcases Nat.lt_or_ge 0 w0.heap.size with h | h
   ·exact h
   ·simp [World.cell?,Array.getElem?_eq_none h] at hc
  refine ⟨u,?_,(ho β u W).2 ?_⟩
  ·have hc2:W.cell? ⟨0,0,none⟩=some u:=(hg.bel.cell (p:=⟨0,0,none⟩) hlt).trans hc
   have ha:aggOf Tryz.prog 56=some false:=by kernel_rfl
   simp only [Sig.sem,Instr.loadAt,Instr.sureAddr,Sem.run_bind,Sem.run_pure,Result.andThen_ok,loadVar,zaO ha]
   simp [run_load,hc2]
  ·rcases hu with ⟨h1,h2,_⟩ | ⟨q,o,c,T,cs,fz,rfl,hD,hh,hk,hn⟩
   ·cases h2
   ·exact .inr ⟨q,o,c,T,cs,fz,rfl,hg.low q hD,(hg.bel.block q hD).trans hh,zcM (K:=KN w0) (S:=fun _=>False) (fun _ h=>h.elim) (zd5 hg.bel) (fun q hq=>hg.low q hq) (FineAll.of fun p hp=>by
     obtain ⟨x,_,h⟩:=List.mem_flatMap.1 hp
     exact (zv rfl x).mem p h) hk,hn⟩
 | [],h=>exact h.elim
 | _::_::_,h=>exact h.2.elim
theorem zci (W:World) (k:Nat) (os:Array Obj):Below W.heap.size W (grow (W.drewN k) os):=⟨rfl,rfl,rfl,by simp [grow,World.drewN],fun _ h=>heap_grow_old _ _ h⟩
theorem znr {w0:World} (hL:LibT w0) (n:Int) (r:List UInt8) (hr:Lib.itoa n=r) (hn:-9223372036854775808≤n∧n<9223372036854775808):Fun (KN w0) Tryz.prog 41 [.o (.c (pI n))] (.o (.c (pS r))):=by
 subst hr
 intro W D vs hs hf
 obtain ⟨v,rfl,hv⟩:=oka1 hs
 obtain rfl:v=.int .i64 n:=hv
 refine (Tryz.strconv_Itoa n hn.1 (by omega) W (hL.pow W hf.bel)).mono fun e W' hr=>?_
 obtain ⟨rfl,k,os,rfl⟩:=hr
 exact ⟨_,D,rfl,rfl,Kept.of hf (zci _ _ _)⟩
theorem zkS {w0:World} (s p a:List UInt8) (o:Bool) (ha:Lib.trimPrefix s p=a) (ho:Lib.hasPrefix s p=o):Fun (KN w0) Tryz.prog 24 [.o (.c (pS s)),.o (.c (pS p))] (.t [.c (pS a),.c (pB o)]):=by
 subst ha;subst ho
 intro W D vs hs hf
 obtain ⟨v,u,rfl,hv,hu⟩:=oka2 hs
 obtain rfl:v=.string ⟨s.toArray⟩:=hv
 obtain rfl:u=.string ⟨p.toArray⟩:=hu
 refine (Tryz.strings_CutPrefix ⟨s.toArray⟩ ⟨p.toArray⟩ W).mono fun e W' hr=>?_
 obtain ⟨rfl,rfl⟩:=hr
 exact ⟨_,D,rfl,⟨_,rfl,rfl,rfl,trivial⟩,Kept.of hf (Below.refl _ _)⟩
theorem zpw {w0:World} (s p:List UInt8) (o:Bool) (ho:Lib.hasPrefix s p=o):Fun (KN w0) Tryz.prog 29 [.o (.c (pS s)),.o (.c (pS p))] (.o (.c (pB o))):=by
 subst ho
 intro W D vs hs hf
 obtain ⟨v,u,rfl,hv,hu⟩:=oka2 hs
 obtain rfl:v=.string ⟨s.toArray⟩:=hv
 obtain rfl:u=.string ⟨p.toArray⟩:=hu
 refine (Tryz.strings_HasPrefix ⟨s.toArray⟩ ⟨p.toArray⟩ W).mono fun e W' hr=>?_
 obtain ⟨rfl,rfl⟩:=hr
 exact ⟨_,D,rfl,rfl,Kept.of hf (Below.refl _ _)⟩
theorem zbq (c:UInt8) (s:List UInt8):Lib.hasPrefix s [c]=(takeC c s).isSome:=by
 cases s with
 | nil=>rfl
 | cons b t =>
  by_cases h:b=c
  ·subst h;simp [Lib.hasPrefix,List.isPrefixOf,takeC]
  ·simp [Lib.hasPrefix,List.isPrefixOf,takeC,h,Ne.symm h]
theorem zbD (c:UInt8) (s:List UInt8):Lib.trimPrefix s [c]=(takeC c s).getD s:=by
 unfold Lib.trimPrefix
 rw [zbq]
 cases s with
 | nil=>rfl
 | cons b t =>
  by_cases h:b=c
  ·subst h;simp [takeC]
  ·simp [takeC,h]
def idxD (s:List UInt8):Int:=if (wordW s).length<s.length then ((wordW s).length:Int) else -1
def IxFun (w0:World) (s:List UInt8):Prop:=Fun (KN w0) Tryz.prog 27 [.o (.c (pS s)),.o (.c (pS [32,40,41]))] (.o (.c (pI (idxD s))))
def IxAll (w0:World) (s:List UInt8):Prop:=s.length<4294967281∧∀t,t <:+ s→IxFun w0 t
theorem IxAll.suf {w0:World} {s t:List UInt8} (h:IxAll w0 s) (ht:t <:+ s):IxAll w0 t:=⟨Nat.lt_of_le_of_lt ht.length_le h.1,fun u hu=>h.2 u (hu.trans ht)⟩
theorem zba:∀s:List UInt8,Lib.indexAny s [32,40,41]=idxD s
 | []=>rfl
 | b::s=>by
  have ih:=zba s
  have hle:(wordW s).length≤s.length:=by have:=congrArg List.length (q8 s);rw [List.length_append] at this;omega
  have hd:[32,40,41].contains b=isDel b:=by
   unfold isDel
   simp only [List.contains_cons,List.contains_nil,Bool.or_false,Bool.or_assoc]
  rw [Lib.indexAny,hd]
  cases h:isDel b with
  | true =>
   rw [if_pos rfl]
   simp [idxD,wordW,List.takeWhile_cons,h]
  | false =>
   have e:wordW (b::s)=b::wordW s:=by simp [wordW,List.takeWhile_cons,h]
   rw [if_neg (by decide),ih]
   unfold idxD
   rw [e,List.length_cons,List.length_cons]
   by_cases hl:(wordW s).length<s.length
   ·have h1:(((wordW s).length:Int) == -1)=false:=by rw [beq_eq_false_iff_ne];omega
    have h2:(wordW s).length+1<s.length+1:=by omega
    simp [hl,h1]
   ·have h2:¬ (wordW s).length+1<s.length+1:=by omega
    simp [hl,h2]
theorem zby {w0:World} {s:List UInt8} (hl:s.length<4294967281) (ha:∀b∈s,b.toNat<128):IxAll w0 s:=by
 refine ⟨hl,fun t ht=>?_⟩
 intro W D vs hs hf
 obtain ⟨v,u,rfl,hv,hu⟩:=oka2 hs
 obtain rfl:v=.string ⟨t.toArray⟩:=hv
 obtain rfl:u=.string ⟨#[32,40,41]⟩:=hu
 refine (Tryz.strings_IndexAny_laid ⟨t.toArray⟩ ⟨#[32,40,41]⟩ W (by simpa [ByteArray.size] using Nat.lt_of_le_of_lt ht.length_le hl) (by decide) (fun j b hb=>ha b (ht.subset (List.mem_of_getElem? (by simpa using hb)))) (fun j b hb=>by
  have:=List.mem_of_getElem? hb
  simp at this
  rcases this with rfl | rfl | rfl<;>decide)).mono fun e W' hr=>?_
 obtain ⟨rfl,hb⟩:=hr
 refine ⟨_,D,rfl,?_,Kept.of hf hb⟩
 show _=Value.int .i64 (idxD t)
 rw [← zba]
theorem zhY:∀(l:List UInt8) (a:Nat),AllD l→dvalA a l<18446744073709551616→Lib.parseUint10 a l=.ok (dvalA a l)
 | [],a,_,_=>rfl
 | c::r,a,h,hv=>by
  have hc:=h c (List.mem_cons_self ..)
  have e:dvalA a (c::r)=dvalA (a*10+(c.toNat - 48)) r:=rfl
  have hge:a*10+(c.toNat - 48)≤dvalA (a*10+(c.toNat - 48)) r:=by
   rw [zlQ]
   have:1≤10 ^ r.length:=Nat.one_le_pow _ _ (by decide)
   exact Nat.le_trans (Nat.le_mul_of_pos_right _ this) (Nat.le_add_right ..)
  rw [e] at hv ⊢
  rw [Lib.parseUint10,if_pos hc,if_neg (by omega),if_neg (by omega)]
  exact zhY r _ (fun b hb=>h b (List.mem_cons_of_mem _ hb)) hv
theorem znK {u:Nat} (h:u<18446744073709551616):Lib.parseMag (Lib.decDigits u)=.ok u:=by
 unfold Lib.parseMag
 have hd:dvalA 0 (Lib.decDigits u)=u:=zcW u
 rw [if_neg (zdU u),zhY _ 0 (zaG u) (by rw [hd];exact h),hd]
theorem zff {n:Int} (h:-9223372036854775808≤n∧n<9223372036854775808):Lib.atoiAll (Lib.itoa n)=.ok n:=by
 obtain ⟨h1,h2⟩:=zeL n
 have hm:=znK (u:=n.natAbs) (by omega)
 cases hl:Lib.itoa n with
 | nil=>exact absurd hl (zcu n)
 | cons c r =>
  rw [hl] at h1 h2
  by_cases hc:c=45
  ·subst hc
   have e1:n<0:=by have:cutN (45::r)=true:=rfl;rw [this] at h1;exact of_decide_eq_true h1.symm
   have e2:r=Lib.decDigits n.natAbs:=h2
   unfold Lib.atoiAll
   simp only
   rw [if_pos (by right;rfl),e2,hm]
   simp only
   rw [if_neg (by intro hh;exact hh.1 rfl),if_neg (by omega),if_pos (by decide)]
   congr 1;omega
  ·have e0:cutN (c::r)=false:=by simp [cutN,hc]
   have e1:¬ n<0:=by rw [e0] at h1;exact of_decide_eq_false h1.symm
   have e2:c::r=Lib.decDigits n.natAbs:=by rw [← h2];simp [cutR,hc]
   have hd:=zaG n.natAbs c (by rw [← e2];exact List.mem_cons_self ..)
   unfold Lib.atoiAll
   simp only
   rw [if_neg (by omega),e2,hm]
   simp only
   rw [if_neg (by omega),if_neg (by omega),if_neg (by omega)]
   congr 1;omega
theorem zgh (w:World) (e:TypeId) (s:ByteArray):Below w.heap.size w (Lib.bytesWorld w e s):=
 ⟨rfl,rfl,rfl,by rw [Lib.bytesWorld_size];omega,fun i hi=>Lib.bytesWorld_at_old w e s i hi⟩
theorem zpu {w0:World} (hL:LibT w0) {s:List UInt8} (hl:s.length<4294967281) {W:World} (hW:Below w0.heap.size w0 W):Calls Tryz.prog 54 #[.string ⟨s.toArray⟩] W fun e W'=>Below W.heap.size W W'∧((∃v,Lib.atoiAll s=.ok v∧e=.returned (.tuple #[.int .i64 v,.nilIface]))∨((∀v,Lib.atoiAll s≠.ok v)∧∃n te pe,e=.returned (.tuple #[.int .i64 n,.iface te pe]))):=by
 have hsz:(⟨s.toArray⟩:ByteArray).size=s.length:=rfl
 cases h:Lib.atoiAll s with
 | ok v =>
  refine (Tryz.strconv_Atoi_ok ⟨s.toArray⟩ (by rw [hsz];omega) v h W).mono fun e W' hr=>?_
  obtain ⟨rfl,rfl | ⟨t,rfl⟩⟩:=hr
  ·exact ⟨Below.refl _ _,.inl ⟨v,rfl,rfl⟩⟩
  ·exact ⟨zgh _ _ _,.inl ⟨v,rfl,rfl⟩⟩
 | «syntax» =>
  obtain ⟨ev,h1,h2⟩:=hL.syn W hW
  refine (Tryz.strconv_Atoi_syntax ⟨s.toArray⟩ (by rw [hsz];omega) h ev W h1 h2).mono fun e W' hr=>?_
  obtain ⟨N,rfl,_,_,hb⟩:=hr
  exact ⟨hb,.inr ⟨fun v hv=>(by cases hv),_,_,_,rfl⟩⟩
 | range =>
  obtain ⟨ev,h1,h2⟩:=hL.rng W hW
  refine (Tryz.strconv_Atoi_range ⟨s.toArray⟩ (by rw [hsz];omega) h ev W h1 h2).mono fun e W' hr=>?_
  obtain ⟨N,rfl,_,_,hb⟩:=hr
  exact ⟨hb,.inr ⟨fun v hv=>(by cases hv),_,_,_,rfl⟩⟩
theorem zfr {s:List UInt8} {v:Int} (h:Lib.atoiAll s=.ok v):intW s=if Lib.itoa v=s then some v else none:=by
 have hb:=Lib.atoiAll_bounds h
 by_cases e:Lib.itoa v=s
 ·rw [if_pos e,← e];exact zaT ⟨hb.1,by omega⟩
 ·rw [if_neg e]
  cases hi:intW s with
  | none=>rfl
  | some n =>
   obtain ⟨h1,h2⟩:=zbk hi
   have:=zff h2
   rw [← h1,h] at this
   injection this with this
   exact absurd (by rw [this];exact h1.symm) e
theorem zlT {s:List UInt8} (h:∀v,Lib.atoiAll s≠.ok v):intW s=none:=by
 cases hi:intW s with
 | none=>rfl
 | some n =>
  obtain ⟨h1,h2⟩:=zbk hi
  exact absurd (h1 ▸ zff h2) (h n)
theorem zpk (a b:List UInt8):((⟨a.toArray⟩:ByteArray)=⟨b.toArray⟩)↔a=b:=by
 constructor
 ·intro h
  have:=congrArg (fun x:ByteArray=>x.data.toList) h
  simpa using this
 ·intro h;rw [h]
theorem zjV (k:Int) (W:World):Calls Tryz.prog 25 #[.int .i64 k] W fun e W'=>e=.panicked [{ v:=.iface 44 (.int .i64 k),recovered:=false }]∧W'=W:=by
 have hp:∀w:World,(Instr.panic (.iface 44 (.int .i64 k))).run Tryz.prog w=.halt (.panic (.iface 44 (.int .i64 k))) w:=fun w=>rfl
 go_enter Tryz.func25,Tryz.ntmps25
 go_wp2
 exact ⟨rfl,rfl,rfl⟩
def zoZ (o:Option Int):Ending:=match o with
 | some n=>.returned (.int .i64 n)
 | none=>.panicked [{ v:=.iface 44 (.int .i64 4),recovered:=false }]
theorem x_int {w0:World} (hL:LibT w0) {s:List UInt8} (hl:s.length<4294967281) {W:World} (hW:Below w0.heap.size w0 W):Calls Tryz.prog 30 #[.string ⟨s.toArray⟩] W fun e W'=>Below W.heap.size W W'∧e=zoZ (intW s):=by
 have AT:=Lib.hid (zpu hL hl hW)
 have IT:=Lib.hid (fun (v:Int) (h:Lib.atoiAll s=.ok v) (W1:World) (hb:Below W.heap.size W W1)=>Tryz.strconv_Itoa v (Lib.atoiAll_bounds h).1 (Lib.atoiAll_bounds h).2 W1 (hL.pow W1 (hW.trans (hb.mono hW.size))))
 have LV:=Lib.hid (zjV 4)
 have hs:=zpk
 go_enter Tryz.func30,Tryz.ntmps30
 go_wp2_with (first
  | (go_at_call 54;refine AT.out.mono ?_;clear AT;rintro e W1 ⟨hb1,⟨v,hv,rfl⟩ | ⟨hbad,n,te,pe,rfl⟩⟩)
  | (go_at_call 41;refine (IT.out _ (by assumption) _ (by assumption)).mono ?_;rintro e W2 ⟨rfl,k,os,rfl⟩)
  | (go_at_call 25;refine (LV.out _).mono ?_;rintro e W3 ⟨rfl,rfl⟩))
 ·have hne:Lib.itoa v≠s:=by simpa using ‹(!Lib.itoa v == s)=true›
  exact ⟨rfl,hb1.trans ((zci _ _ _).mono hb1.size),by rw [zfr hv,if_neg hne];rfl⟩
 ·have he:Lib.itoa v=s:=by simpa using ‹(!Lib.itoa v == s)=false›
  go_ret
  exact ⟨hb1.trans ((zci _ _ _).mono hb1.size),by rw [zfr hv,if_pos he];rfl⟩
 ·exact ⟨rfl,hb1,by rw [zlT hbad];rfl⟩
theorem zmn {w0:World} (hL:LibT w0) (s:List UInt8) (r:Int) (hr:(intW s).getD 0=r) (h:(intW s).isSome=true) (hl:s.length<4294967281):Fun (KN w0) Tryz.prog 30 [.o (.c (pS s))] (.o (.c (pI r))):=by
 intro W D vs hs hf
 obtain ⟨v,rfl,hv⟩:=oka1 hs
 obtain rfl:v=.string ⟨s.toArray⟩:=hv
 refine (x_int hL hl hf.bel).mono fun e W' ⟨hb,he⟩=>?_
 cases hi:intW s with
 | none=>rw [hi] at h;cases h
 | some n =>
  rw [hi] at he hr
  subst hr
  exact ⟨_,D,he,rfl,Kept.of hf hb⟩
theorem zfU {w0:World} (hL:LibT w0) (s:List UInt8) (k:Int) (hk:(4:Int)=k) (h:(intW s).isSome=false) (hl:s.length<4294967281):BFun true (KN w0) Tryz.prog 30 [.o (.c (.d (pS s)))] [] (.o (.c (.d (pV (.iface 44 (.int .i64 k)))))) []:=by
 subst hk
 intro W D vs qs hnd ha hpre hfit
 match vs,qs,ha,hpre with
 | [v],[],⟨hv,_⟩,_ =>
  obtain rfl:v=.string ⟨s.toArray⟩:=hv
  refine (x_int hL hl hfit.bel).mono fun e W' ⟨hb,he⟩=>?_
  cases hi:intW s with
  | some n=>rw [hi] at h;cases h
  | none =>
   rw [hi] at he
   exact ⟨_,D,he,rfl,trivial,⟨(zd5 hb).mono fun _ h=>h.elim,fun _ h=>h,fun _ h=>.inl h,fun q hq=>Nat.lt_of_lt_of_le (hfit.dlt q hq) hb.size⟩⟩
end Go.Proofs.YtdkofaajcpcjkaaGreatDoor
