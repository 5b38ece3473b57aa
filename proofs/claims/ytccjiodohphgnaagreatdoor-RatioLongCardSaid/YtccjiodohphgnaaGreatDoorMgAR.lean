/-
  Merged: RtI, RtJ.
-/
import Derived.Test.YtccjiodohphgnaaGreatDoorMgAQ
import Derived.Test.YtccjiodohphgnaaGreatDoorMgAI
import Derived.Lib.IndexBytes
set_option linter.unusedSimpArgs false
set_option linter.unusedVariables false
set_option maxRecDepth 100000
namespace Go.Proofs.YtccjiodohphgnaaGreatDoor
open Go.RowKit Go.Shelf
def MaxT (W:World):Prop:=∃m:Int,W.cell? ⟨1,0,none⟩=some (.int .i64 m)
theorem oka2 {p q:PSh} {vs:List Value} {W:World} {D:Dat} (h:oka [p,q] vs W D):∃v u,vs=[v,u]∧p.ok v W D∧q.ok u W D:=by
 match vs,h with
 | [v,u],h=>exact ⟨v,u,rfl,h.1,h.2.1⟩
 | [],h=>exact h.elim
 | [_],h=>exact h.2.elim
 | _::_::_::_,h=>exact h.2.2.elim
theorem f_cut {w0:World} (hM:∀W,Below w0.heap.size w0 W→MaxT W) (s p a b:List UInt8) (o:Bool) (ha:(Lib.cut s p).1=a) (hb:(Lib.cut s p).2.1=b) (ho:(Lib.cut s p).2.2=o) (hl:s.length<4294967281):Fun (KN w0) Tryz.prog 69 [.o (.c (pS s)),.o (.c (pS p))] (.t [.c (pS a),.c (pS b),.c (pB o)]):=by
 subst ha;subst hb;subst ho
 intro W D vs hs hf
 obtain ⟨v,u,rfl,hv,hu⟩:=oka2 hs
 have e:v=.string (bs s):=hv
 have e2:u=.string (bs p):=hu
 subst e;subst e2
 obtain ⟨m,hm⟩:=hM W hf.bel
 refine (Tryz.strings_Cut (bs s) (bs p) m W hl hm).mono fun e W' hr=>?_
 obtain ⟨rfl,n,rfl⟩:=hr
 exact ⟨_,D,rfl,⟨_,rfl,rfl,rfl,rfl,trivial⟩,Kept.of hf ((Below.refl _ _).trans ⟨rfl,rfl,rfl,Nat.le_refl _,fun _ _=>rfl⟩)⟩
def qe (s:List UInt8):Nat:=s.findIdx (· == 47)
def qb (s:List UInt8):List UInt8:=s.take (qe s)
def qa (s:List UInt8):List UInt8:=if qe s<s.length then s.drop (qe s+1) else [49]
theorem zjk (s:List UInt8):qe s≤s.length:=List.findIdx_le_length
theorem zfK:∀s:List UInt8,Lib.index s [47]=if qe s<s.length then (qe s:Int) else -1
 | []=>by simp [Lib.index,qe]
 | c::s=>by
  have ih:=zfK s
  unfold Lib.index qe
  rw [List.findIdx_cons]
  by_cases hc:c=47
  ·subst hc;simp [List.isPrefixOf]
  ·have h1:([47]:List UInt8).isPrefixOf (c::s)=false:=by simp [List.isPrefixOf];exact fun h=>hc h.symm
   have h2:(c == 47)=false:=by simp [hc]
   rw [h1,h2,ih]
   show (if _ then _ else _)=_
   simp only [cond_false,List.length_cons,Nat.add_lt_add_iff_right,Bool.false_eq_true,if_false]
   show _=if qe s<s.length then ((qe s+1:Nat):Int) else -1
   by_cases h:qe s<s.length
   ·rw [if_pos h,if_pos h,if_neg (by rw [beq_iff_eq];omega)];omega
   ·rw [if_neg h,if_neg h];try rfl
theorem qg (s:List UInt8):(Lib.cut s [47]).1=qb s∧(Lib.cut s [47]).2.2=decide (qe s<s.length)∧((Lib.cut s [47]).2.2=true→(Lib.cut s [47]).2.1=qa s)∧((Lib.cut s [47]).2.2=false→qa s=[49]):=by
 unfold Lib.cut qb qa
 rw [zfK]
 by_cases h:qe s<s.length
 ·rw [if_pos h,if_pos (by omega)];simp [h]
 ·have:=zjk s
  rw [if_neg h,if_neg (by decide)]
  have e:s.take (qe s)=s:=List.take_of_length_le (by omega)
  simp [h,e]
def rawP (s:List UInt8):RR:=(nz (vO (zk (qb s))),nz (vO (zk (qa s))))
def okP (s:List UInt8):Bool:=okO (zk (qb s)) && okO (zk (qa s)) && rrX (rawP s).1 (rawP s).2 && (textR (rawP s) == s)
def parR (s:List UInt8):RR:=if okP s=true then rawP s else rq none
theorem zle {w0:World} (s:(List UInt8))(hM:∀W,Below w0.heap.size w0 W→MaxT W) (hTS:∀W,Below w0.heap.size w0 W→PowT w0.heap.size W∧SynT w0.heap.size W) (v1:(List UInt8)) (v2:(List UInt8)) (v3:Bool) (v5:Bool) (v7:Raw) (v8:Bool) (v9:Raw) (v10:Bool) (v13:Bool) (v15:(List UInt8)) (v16:Bool) (e1:((Lib.cut s [47]).1)=v1) (e2:((Lib.cut s [47]).2.1)=v2) (e3:((Lib.cut s [47]).2.2)=v3) (e5:(!v3)=v5) (e7:(nz (vO (zk v1)))=v7) (e8:(okO (zk v1))=v8) (e9:(nz (vO (zk [49])))=v9) (e10:(okO (zk [49]))=v10) (e13:(rrX (v7,v9).1 (v7,v9).2)=v13) (e15:(textR (v7,v9))=v15) (e16:(((v15:List UInt8) == s))=v16) (s4:(s:List UInt8).length<4294967281) (h6:v5=true) (h11:v8=true) (h12:v10=true) (h14:v13=true) (h17:v16=true):Fun (KN w0) Tryz.prog 28 [.o (.c (pS s))] (.t [.g [pB v7.1,pD v7.2,pB v9.1,pD v9.2],.c (pV (.bool true))]):=
 zi (zl (F:=FL [pS s,pS v1,pS v2,pB v3,pB v5,pB v7.1,pD v7.2,pB v8,pB v9.1,pD v9.2,pB v10,pB v13,pS v15,pB v16] []) (C:=[(1000003,.call ⟨69,[.o (.c (.h 0)),.o (.c (.k (.string ⟨#[47]⟩)))],[],.t [.c (.h 1),.c (.h 2),.c (.h 3)],[]⟩),
  (1000012,.un .not (LF (.h 3)) (LF (.h 4))),
  (10004,.fb 4 true),
  (1000015,.call ⟨70,[.o (.c (.h 1))],[],.t [.g [.h 5,.h 6],.c (.h 7)],[]⟩),
  (1000023,.call ⟨70,[.o (.c (.k (.string ⟨#[49]⟩)))],[],.t [.g [.h 8,.h 9],.c (.h 10)],[]⟩),
  (10007,.fb 7 true),
  (10010,.fb 10 true),
  (1000041,.call ⟨43,[.o (.g [.h 5,.h 6,.h 8,.h 9])],[],.o (.c (.h 11)),[]⟩),
  (10011,.fb 11 true),
  (1000045,.call ⟨27,[.o (.g [.h 5,.h 6,.h 8,.h 9])],[],.o (.c (.h 12)),[]⟩),
  (1000047,.bin .eql 9 (LF (.h 12)) (LF (.h 0)) (LF (.h 13))),
  (10013,.fb 13 true)]) (k:=⟨28,[.o (.c (.h 0))],[],.t [.g [.h 5,.h 6,.h 8,.h 9],.c (.k (.bool true))],[]⟩) 0 (zm ⟨za rfl,za rfl,za rfl,za rfl,za rfl,za rfl,ze,za rfl,za rfl,ze,za rfl,za rfl,za rfl,za rfl,trivial⟩) ⟨zc (f_cut hM s [47] v1 v2 v3 e1 e2 e3 s4) rfl rfl rfl rfl,
  e_un (zb rfl) (zb rfl) (fun W=>by rw [← e5];exact r_not W),
  e_fb (show pV (.bool v5)=_ by rw [h6]),
  zc (qR hTS v1 v7 v8 e7 e8) rfl rfl rfl rfl,
  zc (qR hTS [49] v9 v10 e9 e10) rfl rfl rfl rfl,
  e_fb (show pV (.bool v8)=_ by rw [h11]),
  e_fb (show pV (.bool v10)=_ by rw [h12]),
  zc (qO (v7,v9) v13 e13) rfl rfl rfl rfl,
  e_fb (show pV (.bool v13)=_ by rw [h14]),
  zc (zcn (fun W h=>(hTS W h).1) (v7,v9) v15 e15) rfl rfl rfl rfl,
  e_bin (zb rfl) (zb rfl) (zb rfl) (fun W X Y=>by rw [← e16];exact r_seq W X Y),
  e_fb (show pV (.bool v16)=_ by rw [h17]),
  trivial⟩ mixed (by kernel_rfl)) rfl rfl rfl rfl
theorem zlf {w0:World} (s:(List UInt8))(hM:∀W,Below w0.heap.size w0 W→MaxT W) (hTS:∀W,Below w0.heap.size w0 W→PowT w0.heap.size W∧SynT w0.heap.size W) (v1:(List UInt8)) (v2:(List UInt8)) (v3:Bool) (v5:Bool) (v7:Raw) (v8:Bool) (v9:Raw) (v10:Bool) (v13:Bool) (v15:(List UInt8)) (v16:Bool) (e1:((Lib.cut s [47]).1)=v1) (e2:((Lib.cut s [47]).2.1)=v2) (e3:((Lib.cut s [47]).2.2)=v3) (e5:(!v3)=v5) (e7:(nz (vO (zk v1)))=v7) (e8:(okO (zk v1))=v8) (e9:(nz (vO (zk [49])))=v9) (e10:(okO (zk [49]))=v10) (e13:(rrX (v7,v9).1 (v7,v9).2)=v13) (e15:(textR (v7,v9))=v15) (e16:(((v15:List UInt8) == s))=v16) (s4:(s:List UInt8).length<4294967281) (h6:v5=true) (h11:v8=true) (h12:v10=true) (h14:v13=true) (h17:v16=false):Fun (KN w0) Tryz.prog 28 [.o (.c (pS s))] (.t [.g [pV (.bool false),pV (.slice none 0 0),pV (.bool false),pV (.slice none 0 0)],.c (pV (.bool false))]):=
 zi (zl (F:=FL [pS s,pS v1,pS v2,pB v3,pB v5,pB v7.1,pD v7.2,pB v8,pB v9.1,pD v9.2,pB v10,pB v13,pS v15,pB v16] []) (C:=[(1000003,.call ⟨69,[.o (.c (.h 0)),.o (.c (.k (.string ⟨#[47]⟩)))],[],.t [.c (.h 1),.c (.h 2),.c (.h 3)],[]⟩),
  (1000012,.un .not (LF (.h 3)) (LF (.h 4))),
  (10004,.fb 4 true),
  (1000015,.call ⟨70,[.o (.c (.h 1))],[],.t [.g [.h 5,.h 6],.c (.h 7)],[]⟩),
  (1000023,.call ⟨70,[.o (.c (.k (.string ⟨#[49]⟩)))],[],.t [.g [.h 8,.h 9],.c (.h 10)],[]⟩),
  (10007,.fb 7 true),
  (10010,.fb 10 true),
  (1000041,.call ⟨43,[.o (.g [.h 5,.h 6,.h 8,.h 9])],[],.o (.c (.h 11)),[]⟩),
  (10011,.fb 11 true),
  (1000045,.call ⟨27,[.o (.g [.h 5,.h 6,.h 8,.h 9])],[],.o (.c (.h 12)),[]⟩),
  (1000047,.bin .eql 9 (LF (.h 12)) (LF (.h 0)) (LF (.h 13))),
  (10013,.fb 13 false)]) (k:=⟨28,[.o (.c (.h 0))],[],.t [.g [.k (.bool false),.k (.slice none 0 0),.k (.bool false),.k (.slice none 0 0)],.c (.k (.bool false))],[]⟩) 0 (zm ⟨za rfl,za rfl,za rfl,za rfl,za rfl,za rfl,ze,za rfl,za rfl,ze,za rfl,za rfl,za rfl,za rfl,trivial⟩) ⟨zc (f_cut hM s [47] v1 v2 v3 e1 e2 e3 s4) rfl rfl rfl rfl,
  e_un (zb rfl) (zb rfl) (fun W=>by rw [← e5];exact r_not W),
  e_fb (show pV (.bool v5)=_ by rw [h6]),
  zc (qR hTS v1 v7 v8 e7 e8) rfl rfl rfl rfl,
  zc (qR hTS [49] v9 v10 e9 e10) rfl rfl rfl rfl,
  e_fb (show pV (.bool v8)=_ by rw [h11]),
  e_fb (show pV (.bool v10)=_ by rw [h12]),
  zc (qO (v7,v9) v13 e13) rfl rfl rfl rfl,
  e_fb (show pV (.bool v13)=_ by rw [h14]),
  zc (zcn (fun W h=>(hTS W h).1) (v7,v9) v15 e15) rfl rfl rfl rfl,
  e_bin (zb rfl) (zb rfl) (zb rfl) (fun W X Y=>by rw [← e16];exact r_seq W X Y),
  e_fb (show pV (.bool v16)=_ by rw [h17]),
  trivial⟩ mixed (by kernel_rfl)) rfl rfl rfl rfl
theorem zlg {w0:World} (s:(List UInt8))(hM:∀W,Below w0.heap.size w0 W→MaxT W) (hTS:∀W,Below w0.heap.size w0 W→PowT w0.heap.size W∧SynT w0.heap.size W) (v1:(List UInt8)) (v2:(List UInt8)) (v3:Bool) (v5:Bool) (v7:Raw) (v8:Bool) (v9:Raw) (v10:Bool) (v13:Bool) (e1:((Lib.cut s [47]).1)=v1) (e2:((Lib.cut s [47]).2.1)=v2) (e3:((Lib.cut s [47]).2.2)=v3) (e5:(!v3)=v5) (e7:(nz (vO (zk v1)))=v7) (e8:(okO (zk v1))=v8) (e9:(nz (vO (zk [49])))=v9) (e10:(okO (zk [49]))=v10) (e13:(rrX (v7,v9).1 (v7,v9).2)=v13) (s4:(s:List UInt8).length<4294967281) (h6:v5=true) (h11:v8=true) (h12:v10=true) (h14:v13=false):Fun (KN w0) Tryz.prog 28 [.o (.c (pS s))] (.t [.g [pV (.bool false),pV (.slice none 0 0),pV (.bool false),pV (.slice none 0 0)],.c (pV (.bool false))]):=
 zi (zl (F:=FL [pS s,pS v1,pS v2,pB v3,pB v5,pB v7.1,pD v7.2,pB v8,pB v9.1,pD v9.2,pB v10,pB v13] []) (C:=[(1000003,.call ⟨69,[.o (.c (.h 0)),.o (.c (.k (.string ⟨#[47]⟩)))],[],.t [.c (.h 1),.c (.h 2),.c (.h 3)],[]⟩),
  (1000012,.un .not (LF (.h 3)) (LF (.h 4))),
  (10004,.fb 4 true),
  (1000015,.call ⟨70,[.o (.c (.h 1))],[],.t [.g [.h 5,.h 6],.c (.h 7)],[]⟩),
  (1000023,.call ⟨70,[.o (.c (.k (.string ⟨#[49]⟩)))],[],.t [.g [.h 8,.h 9],.c (.h 10)],[]⟩),
  (10007,.fb 7 true),
  (10010,.fb 10 true),
  (1000041,.call ⟨43,[.o (.g [.h 5,.h 6,.h 8,.h 9])],[],.o (.c (.h 11)),[]⟩),
  (10011,.fb 11 false)]) (k:=⟨28,[.o (.c (.h 0))],[],.t [.g [.k (.bool false),.k (.slice none 0 0),.k (.bool false),.k (.slice none 0 0)],.c (.k (.bool false))],[]⟩) 0 (zm ⟨za rfl,za rfl,za rfl,za rfl,za rfl,za rfl,ze,za rfl,za rfl,ze,za rfl,za rfl,trivial⟩) ⟨zc (f_cut hM s [47] v1 v2 v3 e1 e2 e3 s4) rfl rfl rfl rfl,
  e_un (zb rfl) (zb rfl) (fun W=>by rw [← e5];exact r_not W),
  e_fb (show pV (.bool v5)=_ by rw [h6]),
  zc (qR hTS v1 v7 v8 e7 e8) rfl rfl rfl rfl,
  zc (qR hTS [49] v9 v10 e9 e10) rfl rfl rfl rfl,
  e_fb (show pV (.bool v8)=_ by rw [h11]),
  e_fb (show pV (.bool v10)=_ by rw [h12]),
  zc (qO (v7,v9) v13 e13) rfl rfl rfl rfl,
  e_fb (show pV (.bool v13)=_ by rw [h14]),
  trivial⟩ mixed (by kernel_rfl)) rfl rfl rfl rfl
theorem zlh {w0:World} (s:(List UInt8))(hM:∀W,Below w0.heap.size w0 W→MaxT W) (hTS:∀W,Below w0.heap.size w0 W→PowT w0.heap.size W∧SynT w0.heap.size W) (v1:(List UInt8)) (v2:(List UInt8)) (v3:Bool) (v5:Bool) (v7:Raw) (v8:Bool) (v9:Raw) (v10:Bool) (e1:((Lib.cut s [47]).1)=v1) (e2:((Lib.cut s [47]).2.1)=v2) (e3:((Lib.cut s [47]).2.2)=v3) (e5:(!v3)=v5) (e7:(nz (vO (zk v1)))=v7) (e8:(okO (zk v1))=v8) (e9:(nz (vO (zk [49])))=v9) (e10:(okO (zk [49]))=v10) (s4:(s:List UInt8).length<4294967281) (h6:v5=true) (h11:v8=true) (h12:v10=false):Fun (KN w0) Tryz.prog 28 [.o (.c (pS s))] (.t [.g [pV (.bool false),pV (.slice none 0 0),pV (.bool false),pV (.slice none 0 0)],.c (pV (.bool false))]):=
 zi (zl (F:=FL [pS s,pS v1,pS v2,pB v3,pB v5,pB v7.1,pD v7.2,pB v8,pB v9.1,pD v9.2,pB v10] []) (C:=[(1000003,.call ⟨69,[.o (.c (.h 0)),.o (.c (.k (.string ⟨#[47]⟩)))],[],.t [.c (.h 1),.c (.h 2),.c (.h 3)],[]⟩),
  (1000012,.un .not (LF (.h 3)) (LF (.h 4))),
  (10004,.fb 4 true),
  (1000015,.call ⟨70,[.o (.c (.h 1))],[],.t [.g [.h 5,.h 6],.c (.h 7)],[]⟩),
  (1000023,.call ⟨70,[.o (.c (.k (.string ⟨#[49]⟩)))],[],.t [.g [.h 8,.h 9],.c (.h 10)],[]⟩),
  (10007,.fb 7 true),
  (10010,.fb 10 false)]) (k:=⟨28,[.o (.c (.h 0))],[],.t [.g [.k (.bool false),.k (.slice none 0 0),.k (.bool false),.k (.slice none 0 0)],.c (.k (.bool false))],[]⟩) 0 (zm ⟨za rfl,za rfl,za rfl,za rfl,za rfl,za rfl,ze,za rfl,za rfl,ze,za rfl,trivial⟩) ⟨zc (f_cut hM s [47] v1 v2 v3 e1 e2 e3 s4) rfl rfl rfl rfl,
  e_un (zb rfl) (zb rfl) (fun W=>by rw [← e5];exact r_not W),
  e_fb (show pV (.bool v5)=_ by rw [h6]),
  zc (qR hTS v1 v7 v8 e7 e8) rfl rfl rfl rfl,
  zc (qR hTS [49] v9 v10 e9 e10) rfl rfl rfl rfl,
  e_fb (show pV (.bool v8)=_ by rw [h11]),
  e_fb (show pV (.bool v10)=_ by rw [h12]),
  trivial⟩ mixed (by kernel_rfl)) rfl rfl rfl rfl
theorem zli {w0:World} (s:(List UInt8))(hM:∀W,Below w0.heap.size w0 W→MaxT W) (hTS:∀W,Below w0.heap.size w0 W→PowT w0.heap.size W∧SynT w0.heap.size W) (v1:(List UInt8)) (v2:(List UInt8)) (v3:Bool) (v5:Bool) (v7:Raw) (v8:Bool) (v9:Raw) (v10:Bool) (e1:((Lib.cut s [47]).1)=v1) (e2:((Lib.cut s [47]).2.1)=v2) (e3:((Lib.cut s [47]).2.2)=v3) (e5:(!v3)=v5) (e7:(nz (vO (zk v1)))=v7) (e8:(okO (zk v1))=v8) (e9:(nz (vO (zk [49])))=v9) (e10:(okO (zk [49]))=v10) (s4:(s:List UInt8).length<4294967281) (h6:v5=true) (h11:v8=false):Fun (KN w0) Tryz.prog 28 [.o (.c (pS s))] (.t [.g [pV (.bool false),pV (.slice none 0 0),pV (.bool false),pV (.slice none 0 0)],.c (pV (.bool false))]):=
 zi (zl (F:=FL [pS s,pS v1,pS v2,pB v3,pB v5,pB v7.1,pD v7.2,pB v8,pB v9.1,pD v9.2,pB v10] []) (C:=[(1000003,.call ⟨69,[.o (.c (.h 0)),.o (.c (.k (.string ⟨#[47]⟩)))],[],.t [.c (.h 1),.c (.h 2),.c (.h 3)],[]⟩),
  (1000012,.un .not (LF (.h 3)) (LF (.h 4))),
  (10004,.fb 4 true),
  (1000015,.call ⟨70,[.o (.c (.h 1))],[],.t [.g [.h 5,.h 6],.c (.h 7)],[]⟩),
  (1000023,.call ⟨70,[.o (.c (.k (.string ⟨#[49]⟩)))],[],.t [.g [.h 8,.h 9],.c (.h 10)],[]⟩),
  (10007,.fb 7 false)]) (k:=⟨28,[.o (.c (.h 0))],[],.t [.g [.k (.bool false),.k (.slice none 0 0),.k (.bool false),.k (.slice none 0 0)],.c (.k (.bool false))],[]⟩) 0 (zm ⟨za rfl,za rfl,za rfl,za rfl,za rfl,za rfl,ze,za rfl,za rfl,ze,za rfl,trivial⟩) ⟨zc (f_cut hM s [47] v1 v2 v3 e1 e2 e3 s4) rfl rfl rfl rfl,
  e_un (zb rfl) (zb rfl) (fun W=>by rw [← e5];exact r_not W),
  e_fb (show pV (.bool v5)=_ by rw [h6]),
  zc (qR hTS v1 v7 v8 e7 e8) rfl rfl rfl rfl,
  zc (qR hTS [49] v9 v10 e9 e10) rfl rfl rfl rfl,
  e_fb (show pV (.bool v8)=_ by rw [h11]),
  trivial⟩ mixed (by kernel_rfl)) rfl rfl rfl rfl
theorem zlj {w0:World} (s:(List UInt8))(hM:∀W,Below w0.heap.size w0 W→MaxT W) (hTS:∀W,Below w0.heap.size w0 W→PowT w0.heap.size W∧SynT w0.heap.size W) (v1:(List UInt8)) (v2:(List UInt8)) (v3:Bool) (v5:Bool) (v7:Raw) (v8:Bool) (v9:Raw) (v10:Bool) (v13:Bool) (v15:(List UInt8)) (v16:Bool) (e1:((Lib.cut s [47]).1)=v1) (e2:((Lib.cut s [47]).2.1)=v2) (e3:((Lib.cut s [47]).2.2)=v3) (e5:(!v3)=v5) (e7:(nz (vO (zk v1)))=v7) (e8:(okO (zk v1))=v8) (e9:(nz (vO (zk v2)))=v9) (e10:(okO (zk v2))=v10) (e13:(rrX (v7,v9).1 (v7,v9).2)=v13) (e15:(textR (v7,v9))=v15) (e16:(((v15:List UInt8) == s))=v16) (s4:(s:List UInt8).length<4294967281) (h6:v5=false) (h11:v8=true) (h12:v10=true) (h14:v13=true) (h17:v16=true):Fun (KN w0) Tryz.prog 28 [.o (.c (pS s))] (.t [.g [pB v7.1,pD v7.2,pB v9.1,pD v9.2],.c (pV (.bool true))]):=
 zi (zl (F:=FL [pS s,pS v1,pS v2,pB v3,pB v5,pB v7.1,pD v7.2,pB v8,pB v9.1,pD v9.2,pB v10,pB v13,pS v15,pB v16] []) (C:=[(1000003,.call ⟨69,[.o (.c (.h 0)),.o (.c (.k (.string ⟨#[47]⟩)))],[],.t [.c (.h 1),.c (.h 2),.c (.h 3)],[]⟩),
  (1000012,.un .not (LF (.h 3)) (LF (.h 4))),
  (10004,.fb 4 false),
  (1000014,.call ⟨70,[.o (.c (.h 1))],[],.t [.g [.h 5,.h 6],.c (.h 7)],[]⟩),
  (1000022,.call ⟨70,[.o (.c (.h 2))],[],.t [.g [.h 8,.h 9],.c (.h 10)],[]⟩),
  (10007,.fb 7 true),
  (10010,.fb 10 true),
  (1000040,.call ⟨43,[.o (.g [.h 5,.h 6,.h 8,.h 9])],[],.o (.c (.h 11)),[]⟩),
  (10011,.fb 11 true),
  (1000044,.call ⟨27,[.o (.g [.h 5,.h 6,.h 8,.h 9])],[],.o (.c (.h 12)),[]⟩),
  (1000046,.bin .eql 9 (LF (.h 12)) (LF (.h 0)) (LF (.h 13))),
  (10013,.fb 13 true)]) (k:=⟨28,[.o (.c (.h 0))],[],.t [.g [.h 5,.h 6,.h 8,.h 9],.c (.k (.bool true))],[]⟩) 0 (zm ⟨za rfl,za rfl,za rfl,za rfl,za rfl,za rfl,ze,za rfl,za rfl,ze,za rfl,za rfl,za rfl,za rfl,trivial⟩) ⟨zc (f_cut hM s [47] v1 v2 v3 e1 e2 e3 s4) rfl rfl rfl rfl,
  e_un (zb rfl) (zb rfl) (fun W=>by rw [← e5];exact r_not W),
  e_fb (show pV (.bool v5)=_ by rw [h6]),
  zc (qR hTS v1 v7 v8 e7 e8) rfl rfl rfl rfl,
  zc (qR hTS v2 v9 v10 e9 e10) rfl rfl rfl rfl,
  e_fb (show pV (.bool v8)=_ by rw [h11]),
  e_fb (show pV (.bool v10)=_ by rw [h12]),
  zc (qO (v7,v9) v13 e13) rfl rfl rfl rfl,
  e_fb (show pV (.bool v13)=_ by rw [h14]),
  zc (zcn (fun W h=>(hTS W h).1) (v7,v9) v15 e15) rfl rfl rfl rfl,
  e_bin (zb rfl) (zb rfl) (zb rfl) (fun W X Y=>by rw [← e16];exact r_seq W X Y),
  e_fb (show pV (.bool v16)=_ by rw [h17]),
  trivial⟩ mixed (by kernel_rfl)) rfl rfl rfl rfl
theorem zlk {w0:World} (s:(List UInt8))(hM:∀W,Below w0.heap.size w0 W→MaxT W) (hTS:∀W,Below w0.heap.size w0 W→PowT w0.heap.size W∧SynT w0.heap.size W) (v1:(List UInt8)) (v2:(List UInt8)) (v3:Bool) (v5:Bool) (v7:Raw) (v8:Bool) (v9:Raw) (v10:Bool) (v13:Bool) (v15:(List UInt8)) (v16:Bool) (e1:((Lib.cut s [47]).1)=v1) (e2:((Lib.cut s [47]).2.1)=v2) (e3:((Lib.cut s [47]).2.2)=v3) (e5:(!v3)=v5) (e7:(nz (vO (zk v1)))=v7) (e8:(okO (zk v1))=v8) (e9:(nz (vO (zk v2)))=v9) (e10:(okO (zk v2))=v10) (e13:(rrX (v7,v9).1 (v7,v9).2)=v13) (e15:(textR (v7,v9))=v15) (e16:(((v15:List UInt8) == s))=v16) (s4:(s:List UInt8).length<4294967281) (h6:v5=false) (h11:v8=true) (h12:v10=true) (h14:v13=true) (h17:v16=false):Fun (KN w0) Tryz.prog 28 [.o (.c (pS s))] (.t [.g [pV (.bool false),pV (.slice none 0 0),pV (.bool false),pV (.slice none 0 0)],.c (pV (.bool false))]):=
 zi (zl (F:=FL [pS s,pS v1,pS v2,pB v3,pB v5,pB v7.1,pD v7.2,pB v8,pB v9.1,pD v9.2,pB v10,pB v13,pS v15,pB v16] []) (C:=[(1000003,.call ⟨69,[.o (.c (.h 0)),.o (.c (.k (.string ⟨#[47]⟩)))],[],.t [.c (.h 1),.c (.h 2),.c (.h 3)],[]⟩),
  (1000012,.un .not (LF (.h 3)) (LF (.h 4))),
  (10004,.fb 4 false),
  (1000014,.call ⟨70,[.o (.c (.h 1))],[],.t [.g [.h 5,.h 6],.c (.h 7)],[]⟩),
  (1000022,.call ⟨70,[.o (.c (.h 2))],[],.t [.g [.h 8,.h 9],.c (.h 10)],[]⟩),
  (10007,.fb 7 true),
  (10010,.fb 10 true),
  (1000040,.call ⟨43,[.o (.g [.h 5,.h 6,.h 8,.h 9])],[],.o (.c (.h 11)),[]⟩),
  (10011,.fb 11 true),
  (1000044,.call ⟨27,[.o (.g [.h 5,.h 6,.h 8,.h 9])],[],.o (.c (.h 12)),[]⟩),
  (1000046,.bin .eql 9 (LF (.h 12)) (LF (.h 0)) (LF (.h 13))),
  (10013,.fb 13 false)]) (k:=⟨28,[.o (.c (.h 0))],[],.t [.g [.k (.bool false),.k (.slice none 0 0),.k (.bool false),.k (.slice none 0 0)],.c (.k (.bool false))],[]⟩) 0 (zm ⟨za rfl,za rfl,za rfl,za rfl,za rfl,za rfl,ze,za rfl,za rfl,ze,za rfl,za rfl,za rfl,za rfl,trivial⟩) ⟨zc (f_cut hM s [47] v1 v2 v3 e1 e2 e3 s4) rfl rfl rfl rfl,
  e_un (zb rfl) (zb rfl) (fun W=>by rw [← e5];exact r_not W),
  e_fb (show pV (.bool v5)=_ by rw [h6]),
  zc (qR hTS v1 v7 v8 e7 e8) rfl rfl rfl rfl,
  zc (qR hTS v2 v9 v10 e9 e10) rfl rfl rfl rfl,
  e_fb (show pV (.bool v8)=_ by rw [h11]),
  e_fb (show pV (.bool v10)=_ by rw [h12]),
  zc (qO (v7,v9) v13 e13) rfl rfl rfl rfl,
  e_fb (show pV (.bool v13)=_ by rw [h14]),
  zc (zcn (fun W h=>(hTS W h).1) (v7,v9) v15 e15) rfl rfl rfl rfl,
  e_bin (zb rfl) (zb rfl) (zb rfl) (fun W X Y=>by rw [← e16];exact r_seq W X Y),
  e_fb (show pV (.bool v16)=_ by rw [h17]),
  trivial⟩ mixed (by kernel_rfl)) rfl rfl rfl rfl
theorem zll {w0:World} (s:(List UInt8))(hM:∀W,Below w0.heap.size w0 W→MaxT W) (hTS:∀W,Below w0.heap.size w0 W→PowT w0.heap.size W∧SynT w0.heap.size W) (v1:(List UInt8)) (v2:(List UInt8)) (v3:Bool) (v5:Bool) (v7:Raw) (v8:Bool) (v9:Raw) (v10:Bool) (v13:Bool) (e1:((Lib.cut s [47]).1)=v1) (e2:((Lib.cut s [47]).2.1)=v2) (e3:((Lib.cut s [47]).2.2)=v3) (e5:(!v3)=v5) (e7:(nz (vO (zk v1)))=v7) (e8:(okO (zk v1))=v8) (e9:(nz (vO (zk v2)))=v9) (e10:(okO (zk v2))=v10) (e13:(rrX (v7,v9).1 (v7,v9).2)=v13) (s4:(s:List UInt8).length<4294967281) (h6:v5=false) (h11:v8=true) (h12:v10=true) (h14:v13=false):Fun (KN w0) Tryz.prog 28 [.o (.c (pS s))] (.t [.g [pV (.bool false),pV (.slice none 0 0),pV (.bool false),pV (.slice none 0 0)],.c (pV (.bool false))]):=
 zi (zl (F:=FL [pS s,pS v1,pS v2,pB v3,pB v5,pB v7.1,pD v7.2,pB v8,pB v9.1,pD v9.2,pB v10,pB v13] []) (C:=[(1000003,.call ⟨69,[.o (.c (.h 0)),.o (.c (.k (.string ⟨#[47]⟩)))],[],.t [.c (.h 1),.c (.h 2),.c (.h 3)],[]⟩),
  (1000012,.un .not (LF (.h 3)) (LF (.h 4))),
  (10004,.fb 4 false),
  (1000014,.call ⟨70,[.o (.c (.h 1))],[],.t [.g [.h 5,.h 6],.c (.h 7)],[]⟩),
  (1000022,.call ⟨70,[.o (.c (.h 2))],[],.t [.g [.h 8,.h 9],.c (.h 10)],[]⟩),
  (10007,.fb 7 true),
  (10010,.fb 10 true),
  (1000040,.call ⟨43,[.o (.g [.h 5,.h 6,.h 8,.h 9])],[],.o (.c (.h 11)),[]⟩),
  (10011,.fb 11 false)]) (k:=⟨28,[.o (.c (.h 0))],[],.t [.g [.k (.bool false),.k (.slice none 0 0),.k (.bool false),.k (.slice none 0 0)],.c (.k (.bool false))],[]⟩) 0 (zm ⟨za rfl,za rfl,za rfl,za rfl,za rfl,za rfl,ze,za rfl,za rfl,ze,za rfl,za rfl,trivial⟩) ⟨zc (f_cut hM s [47] v1 v2 v3 e1 e2 e3 s4) rfl rfl rfl rfl,
  e_un (zb rfl) (zb rfl) (fun W=>by rw [← e5];exact r_not W),
  e_fb (show pV (.bool v5)=_ by rw [h6]),
  zc (qR hTS v1 v7 v8 e7 e8) rfl rfl rfl rfl,
  zc (qR hTS v2 v9 v10 e9 e10) rfl rfl rfl rfl,
  e_fb (show pV (.bool v8)=_ by rw [h11]),
  e_fb (show pV (.bool v10)=_ by rw [h12]),
  zc (qO (v7,v9) v13 e13) rfl rfl rfl rfl,
  e_fb (show pV (.bool v13)=_ by rw [h14]),
  trivial⟩ mixed (by kernel_rfl)) rfl rfl rfl rfl
theorem zlm {w0:World} (s:(List UInt8))(hM:∀W,Below w0.heap.size w0 W→MaxT W) (hTS:∀W,Below w0.heap.size w0 W→PowT w0.heap.size W∧SynT w0.heap.size W) (v1:(List UInt8)) (v2:(List UInt8)) (v3:Bool) (v5:Bool) (v7:Raw) (v8:Bool) (v9:Raw) (v10:Bool) (e1:((Lib.cut s [47]).1)=v1) (e2:((Lib.cut s [47]).2.1)=v2) (e3:((Lib.cut s [47]).2.2)=v3) (e5:(!v3)=v5) (e7:(nz (vO (zk v1)))=v7) (e8:(okO (zk v1))=v8) (e9:(nz (vO (zk v2)))=v9) (e10:(okO (zk v2))=v10) (s4:(s:List UInt8).length<4294967281) (h6:v5=false) (h11:v8=true) (h12:v10=false):Fun (KN w0) Tryz.prog 28 [.o (.c (pS s))] (.t [.g [pV (.bool false),pV (.slice none 0 0),pV (.bool false),pV (.slice none 0 0)],.c (pV (.bool false))]):=
 zi (zl (F:=FL [pS s,pS v1,pS v2,pB v3,pB v5,pB v7.1,pD v7.2,pB v8,pB v9.1,pD v9.2,pB v10] []) (C:=[(1000003,.call ⟨69,[.o (.c (.h 0)),.o (.c (.k (.string ⟨#[47]⟩)))],[],.t [.c (.h 1),.c (.h 2),.c (.h 3)],[]⟩),
  (1000012,.un .not (LF (.h 3)) (LF (.h 4))),
  (10004,.fb 4 false),
  (1000014,.call ⟨70,[.o (.c (.h 1))],[],.t [.g [.h 5,.h 6],.c (.h 7)],[]⟩),
  (1000022,.call ⟨70,[.o (.c (.h 2))],[],.t [.g [.h 8,.h 9],.c (.h 10)],[]⟩),
  (10007,.fb 7 true),
  (10010,.fb 10 false)]) (k:=⟨28,[.o (.c (.h 0))],[],.t [.g [.k (.bool false),.k (.slice none 0 0),.k (.bool false),.k (.slice none 0 0)],.c (.k (.bool false))],[]⟩) 0 (zm ⟨za rfl,za rfl,za rfl,za rfl,za rfl,za rfl,ze,za rfl,za rfl,ze,za rfl,trivial⟩) ⟨zc (f_cut hM s [47] v1 v2 v3 e1 e2 e3 s4) rfl rfl rfl rfl,
  e_un (zb rfl) (zb rfl) (fun W=>by rw [← e5];exact r_not W),
  e_fb (show pV (.bool v5)=_ by rw [h6]),
  zc (qR hTS v1 v7 v8 e7 e8) rfl rfl rfl rfl,
  zc (qR hTS v2 v9 v10 e9 e10) rfl rfl rfl rfl,
  e_fb (show pV (.bool v8)=_ by rw [h11]),
  e_fb (show pV (.bool v10)=_ by rw [h12]),
  trivial⟩ mixed (by kernel_rfl)) rfl rfl rfl rfl
theorem zln {w0:World} (s:(List UInt8))(hM:∀W,Below w0.heap.size w0 W→MaxT W) (hTS:∀W,Below w0.heap.size w0 W→PowT w0.heap.size W∧SynT w0.heap.size W) (v1:(List UInt8)) (v2:(List UInt8)) (v3:Bool) (v5:Bool) (v7:Raw) (v8:Bool) (v9:Raw) (v10:Bool) (e1:((Lib.cut s [47]).1)=v1) (e2:((Lib.cut s [47]).2.1)=v2) (e3:((Lib.cut s [47]).2.2)=v3) (e5:(!v3)=v5) (e7:(nz (vO (zk v1)))=v7) (e8:(okO (zk v1))=v8) (e9:(nz (vO (zk v2)))=v9) (e10:(okO (zk v2))=v10) (s4:(s:List UInt8).length<4294967281) (h6:v5=false) (h11:v8=false):Fun (KN w0) Tryz.prog 28 [.o (.c (pS s))] (.t [.g [pV (.bool false),pV (.slice none 0 0),pV (.bool false),pV (.slice none 0 0)],.c (pV (.bool false))]):=
 zi (zl (F:=FL [pS s,pS v1,pS v2,pB v3,pB v5,pB v7.1,pD v7.2,pB v8,pB v9.1,pD v9.2,pB v10] []) (C:=[(1000003,.call ⟨69,[.o (.c (.h 0)),.o (.c (.k (.string ⟨#[47]⟩)))],[],.t [.c (.h 1),.c (.h 2),.c (.h 3)],[]⟩),
  (1000012,.un .not (LF (.h 3)) (LF (.h 4))),
  (10004,.fb 4 false),
  (1000014,.call ⟨70,[.o (.c (.h 1))],[],.t [.g [.h 5,.h 6],.c (.h 7)],[]⟩),
  (1000022,.call ⟨70,[.o (.c (.h 2))],[],.t [.g [.h 8,.h 9],.c (.h 10)],[]⟩),
  (10007,.fb 7 false)]) (k:=⟨28,[.o (.c (.h 0))],[],.t [.g [.k (.bool false),.k (.slice none 0 0),.k (.bool false),.k (.slice none 0 0)],.c (.k (.bool false))],[]⟩) 0 (zm ⟨za rfl,za rfl,za rfl,za rfl,za rfl,za rfl,ze,za rfl,za rfl,ze,za rfl,trivial⟩) ⟨zc (f_cut hM s [47] v1 v2 v3 e1 e2 e3 s4) rfl rfl rfl rfl,
  e_un (zb rfl) (zb rfl) (fun W=>by rw [← e5];exact r_not W),
  e_fb (show pV (.bool v5)=_ by rw [h6]),
  zc (qR hTS v1 v7 v8 e7 e8) rfl rfl rfl rfl,
  zc (qR hTS v2 v9 v10 e9 e10) rfl rfl rfl rfl,
  e_fb (show pV (.bool v8)=_ by rw [h11]),
  trivial⟩ mixed (by kernel_rfl)) rfl rfl rfl rfl
theorem zc9 {w0:World} (hM:∀W,Below w0.heap.size w0 W→MaxT W) (hTS:∀W,Below w0.heap.size w0 W→PowT w0.heap.size W∧SynT w0.heap.size W) (s:List UInt8) (r:RR) (o:Bool) (hr:parR s=r) (ho:okP s=o) (hl:s.length<4294967281):Fun (KN w0) Tryz.prog 28 [.o (.c (pS s))] (.t [.g (cN r.1++cN r.2),.c (pB o)]):=by
 obtain ⟨v1,e1⟩:∃v,((Lib.cut s [47]).1)=v:=⟨_,rfl⟩
 obtain ⟨v2,e2⟩:∃v,((Lib.cut s [47]).2.1)=v:=⟨_,rfl⟩
 obtain ⟨v3,e3⟩:∃v,((Lib.cut s [47]).2.2)=v:=⟨_,rfl⟩
 have s4:(s:List UInt8).length<4294967281:=by exact hl
 obtain ⟨v5,e5⟩:∃v,(!v3)=v:=⟨_,rfl⟩
 cases h6:v5 with
 | true =>
  obtain ⟨v7,e7⟩:∃v,(nz (vO (zk v1)))=v:=⟨_,rfl⟩
  obtain ⟨v8,e8⟩:∃v,(okO (zk v1))=v:=⟨_,rfl⟩
  obtain ⟨v9,e9⟩:∃v,(nz (vO (zk [49])))=v:=⟨_,rfl⟩
  obtain ⟨v10,e10⟩:∃v,(okO (zk [49]))=v:=⟨_,rfl⟩
  cases h11:v8 with
  | true =>
   cases h12:v10 with
   | true =>
    obtain ⟨v13,e13⟩:∃v,(rrX (v7,v9).1 (v7,v9).2)=v:=⟨_,rfl⟩
    cases h14:v13 with
    | true =>
     obtain ⟨v15,e15⟩:∃v,(textR (v7,v9))=v:=⟨_,rfl⟩
     obtain ⟨v16,e16⟩:∃v,(((v15:List UInt8) == s))=v:=⟨_,rfl⟩
     cases h17:v16 with
     | true =>
      refine Fun.imp (zle s hM hTS v1 v2 v3 v5 v7 v8 v9 v10 v13 v15 v16 e1 e2 e3 e5 e7 e8 e9 e10 e13 e15 e16 s4 h6 h11 h12 h14 h17) (fun _ _ _ h=>h) (fun v W D h=>?_)
      have r0:r=(v7,v9):=by
       obtain ⟨c1,c2,c3,c4⟩:=qg s
       first | rw [← hr] | rw [← ho]
       subst_vars
       simp_all [parR,okP,rawP]
      have r1:o=true:=by
       obtain ⟨c1,c2,c3,c4⟩:=qg s
       first | rw [← hr] | rw [← ho]
       subst_vars
       simp_all [parR,okP,rawP]
      rw [r0,r1];exact h
     | false =>
      refine Fun.imp (zlf s hM hTS v1 v2 v3 v5 v7 v8 v9 v10 v13 v15 v16 e1 e2 e3 e5 e7 e8 e9 e10 e13 e15 e16 s4 h6 h11 h12 h14 h17) (fun _ _ _ h=>h) (fun v W D h=>?_)
      have r0:r=rq none:=by
       obtain ⟨c1,c2,c3,c4⟩:=qg s
       first | rw [← hr] | rw [← ho]
       subst_vars
       simp_all [parR,okP,rawP]
      have r1:o=false:=by
       obtain ⟨c1,c2,c3,c4⟩:=qg s
       first | rw [← hr] | rw [← ho]
       subst_vars
       simp_all [parR,okP,rawP]
      rw [r0,r1];exact zaN h
    | false =>
     refine Fun.imp (zlg s hM hTS v1 v2 v3 v5 v7 v8 v9 v10 v13 e1 e2 e3 e5 e7 e8 e9 e10 e13 s4 h6 h11 h12 h14) (fun _ _ _ h=>h) (fun v W D h=>?_)
     have r0:r=rq none:=by
      obtain ⟨c1,c2,c3,c4⟩:=qg s
      first | rw [← hr] | rw [← ho]
      subst_vars
      simp_all [parR,okP,rawP]
     have r1:o=false:=by
      obtain ⟨c1,c2,c3,c4⟩:=qg s
      first | rw [← hr] | rw [← ho]
      subst_vars
      simp_all [parR,okP,rawP]
     rw [r0,r1];exact zaN h
   | false =>
    refine Fun.imp (zlh s hM hTS v1 v2 v3 v5 v7 v8 v9 v10 e1 e2 e3 e5 e7 e8 e9 e10 s4 h6 h11 h12) (fun _ _ _ h=>h) (fun v W D h=>?_)
    have r0:r=rq none:=by
     obtain ⟨c1,c2,c3,c4⟩:=qg s
     first | rw [← hr] | rw [← ho]
     subst_vars
     simp_all [parR,okP,rawP]
    have r1:o=false:=by
     obtain ⟨c1,c2,c3,c4⟩:=qg s
     first | rw [← hr] | rw [← ho]
     subst_vars
     simp_all [parR,okP,rawP]
    rw [r0,r1];exact zaN h
  | false =>
   refine Fun.imp (zli s hM hTS v1 v2 v3 v5 v7 v8 v9 v10 e1 e2 e3 e5 e7 e8 e9 e10 s4 h6 h11) (fun _ _ _ h=>h) (fun v W D h=>?_)
   have r0:r=rq none:=by
    obtain ⟨c1,c2,c3,c4⟩:=qg s
    first | rw [← hr] | rw [← ho]
    subst_vars
    simp_all [parR,okP,rawP]
   have r1:o=false:=by
    obtain ⟨c1,c2,c3,c4⟩:=qg s
    first | rw [← hr] | rw [← ho]
    subst_vars
    simp_all [parR,okP,rawP]
   rw [r0,r1];exact zaN h
 | false =>
  obtain ⟨v7,e7⟩:∃v,(nz (vO (zk v1)))=v:=⟨_,rfl⟩
  obtain ⟨v8,e8⟩:∃v,(okO (zk v1))=v:=⟨_,rfl⟩
  obtain ⟨v9,e9⟩:∃v,(nz (vO (zk v2)))=v:=⟨_,rfl⟩
  obtain ⟨v10,e10⟩:∃v,(okO (zk v2))=v:=⟨_,rfl⟩
  cases h11:v8 with
  | true =>
   cases h12:v10 with
   | true =>
    obtain ⟨v13,e13⟩:∃v,(rrX (v7,v9).1 (v7,v9).2)=v:=⟨_,rfl⟩
    cases h14:v13 with
    | true =>
     obtain ⟨v15,e15⟩:∃v,(textR (v7,v9))=v:=⟨_,rfl⟩
     obtain ⟨v16,e16⟩:∃v,(((v15:List UInt8) == s))=v:=⟨_,rfl⟩
     cases h17:v16 with
     | true =>
      refine Fun.imp (zlj s hM hTS v1 v2 v3 v5 v7 v8 v9 v10 v13 v15 v16 e1 e2 e3 e5 e7 e8 e9 e10 e13 e15 e16 s4 h6 h11 h12 h14 h17) (fun _ _ _ h=>h) (fun v W D h=>?_)
      have r0:r=(v7,v9):=by
       obtain ⟨c1,c2,c3,c4⟩:=qg s
       first | rw [← hr] | rw [← ho]
       subst_vars
       simp_all [parR,okP,rawP]
      have r1:o=true:=by
       obtain ⟨c1,c2,c3,c4⟩:=qg s
       first | rw [← hr] | rw [← ho]
       subst_vars
       simp_all [parR,okP,rawP]
      rw [r0,r1];exact h
     | false =>
      refine Fun.imp (zlk s hM hTS v1 v2 v3 v5 v7 v8 v9 v10 v13 v15 v16 e1 e2 e3 e5 e7 e8 e9 e10 e13 e15 e16 s4 h6 h11 h12 h14 h17) (fun _ _ _ h=>h) (fun v W D h=>?_)
      have r0:r=rq none:=by
       obtain ⟨c1,c2,c3,c4⟩:=qg s
       first | rw [← hr] | rw [← ho]
       subst_vars
       simp_all [parR,okP,rawP]
      have r1:o=false:=by
       obtain ⟨c1,c2,c3,c4⟩:=qg s
       first | rw [← hr] | rw [← ho]
       subst_vars
       simp_all [parR,okP,rawP]
      rw [r0,r1];exact zaN h
    | false =>
     refine Fun.imp (zll s hM hTS v1 v2 v3 v5 v7 v8 v9 v10 v13 e1 e2 e3 e5 e7 e8 e9 e10 e13 s4 h6 h11 h12 h14) (fun _ _ _ h=>h) (fun v W D h=>?_)
     have r0:r=rq none:=by
      obtain ⟨c1,c2,c3,c4⟩:=qg s
      first | rw [← hr] | rw [← ho]
      subst_vars
      simp_all [parR,okP,rawP]
     have r1:o=false:=by
      obtain ⟨c1,c2,c3,c4⟩:=qg s
      first | rw [← hr] | rw [← ho]
      subst_vars
      simp_all [parR,okP,rawP]
     rw [r0,r1];exact zaN h
   | false =>
    refine Fun.imp (zlm s hM hTS v1 v2 v3 v5 v7 v8 v9 v10 e1 e2 e3 e5 e7 e8 e9 e10 s4 h6 h11 h12) (fun _ _ _ h=>h) (fun v W D h=>?_)
    have r0:r=rq none:=by
     obtain ⟨c1,c2,c3,c4⟩:=qg s
     first | rw [← hr] | rw [← ho]
     subst_vars
     simp_all [parR,okP,rawP]
    have r1:o=false:=by
     obtain ⟨c1,c2,c3,c4⟩:=qg s
     first | rw [← hr] | rw [← ho]
     subst_vars
     simp_all [parR,okP,rawP]
    rw [r0,r1];exact zaN h
  | false =>
   refine Fun.imp (zln s hM hTS v1 v2 v3 v5 v7 v8 v9 v10 e1 e2 e3 e5 e7 e8 e9 e10 s4 h6 h11) (fun _ _ _ h=>h) (fun v W D h=>?_)
   have r0:r=rq none:=by
    obtain ⟨c1,c2,c3,c4⟩:=qg s
    first | rw [← hr] | rw [← ho]
    subst_vars
    simp_all [parR,okP,rawP]
   have r1:o=false:=by
    obtain ⟨c1,c2,c3,c4⟩:=qg s
    first | rw [← hr] | rw [← ho]
    subst_vars
    simp_all [parR,okP,rawP]
   rw [r0,r1];exact zaN h
theorem zhq {s:List UInt8} {n:Nat} {b:UInt8} (h:s[n]?=some b) (hn:n≤qe s):if b=47 then qe s=n else n+1≤qe s:=by
 have hl:=(List.getElem?_eq_some_iff.1 h).1
 have he:=(List.getElem?_eq_some_iff.1 h).2
 split
 ·rename_i hb
  rcases Nat.lt_or_ge n (qe s) with h1 | h1
  ·have:=List.not_of_lt_findIdx h1
   rw [he,hb] at this;exact absurd this (by decide)
  ·omega
 ·rename_i hb
  rcases Nat.lt_or_ge n (qe s) with h1 | h1
  ·exact h1
  ·have e:qe s=n:=by omega
   have h2:qe s<s.length:=by omega
   have:=List.findIdx_getElem (w:=h2)
   have h3:(s[qe s]'h2 == 47)=true:=this
   simp only [e,he] at h3
   exact absurd (beq_iff_eq.1 h3) hb
structure rpar_T where
 i:Int
def zba:List Atom:=[.sl 0 (.o (.c (.h 0))),.sl 2 (.o (.c (.p 0 0))),.sl 3 (.o (.c (.k (.bool false)))),.sl 4 (.o (.c (.h 1))),.bx 0 28 [.k (.bool false),.k (.slice none 0 0),.k (.bool false),.k (.slice none 0 0)]]
def qI:LoopS:=⟨2,[.sl 0 (.o (.c (.h 0))),.sl 2 (.o (.c (.p 0 0))),.sl 3 (.o (.c (.k (.bool false)))),.sl 4 (.o (.c (.k (.int .i64 0)))),.bx 0 28 [.k (.bool false),.k (.slice none 0 0),.k (.bool false),.k (.slice none 0 0)]],(.x 0),[.sl 0 (.o (.c (.h 0))),.sl 2 (.o (.c (.p 0 0))),.sl 3 (.o (.c (.k (.bool false)))),.sl 4 (.o (.c (.h 1))),.bx 0 28 [.k (.bool false),.k (.slice none 0 0),.k (.bool false),.k (.slice none 0 0)]]⟩
theorem zuV {w0:World} (s:(List UInt8)) (i:Int) (v501:Int) (v502:Bool) (n504:Nat) (b505:UInt8) (v508:Bool) (v510:Int) (e501:(((s:List UInt8).length:Int))=v501) (e502:(decide (i<v501))=v502) (e508:(((b505.toNat:Int) != (47:Int)))=v508) (e510:(IntKind.i64.wrap (i+(1:Int)))=v510) (h503:v502=true) (s506:i=(n504:Int)) (s507:(s:List UInt8)[n504]?=some b505) (h509:v508=true) (i':Int) (q0:(v510)=i') (R:Frm) (hR:R.pm=⟨ntOf Tryz.prog 31,[],[]⟩):Goes (KN w0) Tryz.prog R (lp Tryz.prog 31 0) (FL [pS s,pI i] []) zba .n (FL [pS s,pI i'] []) zba:=
 goes (Fb:=FL [pS s,pI i,pI v501,pB v502,pV (.int .u8 (b505.toNat:Int)),pB v508,pI v510] []) (stb:=zba) (tl:=[.sl 0 (.o (.c (.h 0))),.sl 2 (.o (.c (.p 0 0))),.sl 3 (.o (.c (.k (.bool false)))),.sl 4 (.o (.c (.h 6))),.bx 0 28 [.k (.bool false),.k (.slice none 0 0),.k (.bool false),.k (.slice none 0 0)]]) (C:=[(1005002,.op (.len [9] 3) [LF (.h 0)] [] (LF (.h 2))),
  (1005003,.bin .lss 3 (LF (.h 1)) (LF (.h 2)) (LF (.h 3))),
  (10003,.fb 3 true),
  (1005007,.op (.ix 9) [LF (.h 0),LF (.h 1)] [] (LF (.h 4))),
  (1005008,.bin .neq 5 (LF (.h 4)) (LF (.k (.int .u8 47))) (LF (.h 5))),
  (10005,.fb 5 true),
  (1005011,.bin .add 3 (LF (.h 1)) (LF (.k (.int .i64 1))) (LF (.h 6)))]) (H:=.no) 5000 (zipA.imp ⟨z_c (fun _ _ _ h=>h),z_c (fun _ _ _ h=>h),z_c (fun _ _ _ h=>h),z_c (fun _ _ _ h=>h),z_b ⟨fun _ _ _ h=>h,fun _ _ _ h=>h,fun _ _ _ h=>h,fun _ _ _ h=>h,trivial⟩,trivial⟩) (zm ⟨za rfl,za rfl,za rfl,za rfl,za rfl,za rfl,za rfl,trivial⟩) ⟨e_op1 (zb rfl) (zb rfl) (fun W=>by rw [← e501];exact zbX (by kernel_rfl) W),
  e_bin (zb rfl) (zb rfl) (zb rfl) (r_cmp (congrArg some e502)),
  e_fb (show pV (.bool v502)=_ by rw [h503]),
  e_op2 (zb rfl) (zb rfl) (zb rfl) (r_ix (by kernel_rfl) s506 s507),
  e_bin (zb rfl) zg (zb rfl) (r_cmp (congrArg some e508)),
  e_fb (show pV (.bool v508)=_ by rw [h509]),
  e_bin (zb rfl) zg (zb rfl) (r_ar (congrArg some e510)),
  trivial⟩ mixed hR trivial (fun _ _ _ hs=>by cases hs) (by kernel_rfl:q7 (KN w0) Tryz.prog _ .no ⟨ntOf Tryz.prog 31,[],[]⟩ (lp Tryz.prog 31 0) 5000 zba .n [.sl 0 (.o (.c (.h 0))),.sl 2 (.o (.c (.p 0 0))),.sl 3 (.o (.c (.k (.bool false)))),.sl 4 (.o (.c (.h 6))),.bx 0 28 [.k (.bool false),.k (.slice none 0 0),.k (.bool false),.k (.slice none 0 0)]]=true) rfl (zipA.imp ⟨z_c (fun _ _ _ h=>h),z_c (fun _ _ _ h=>h),z_c (fun _ _ _ h=>h),z_c (fun β v W h=>(zd rfl β v W).2 (by rw [← q0];exact h)),z_b ⟨fun _ _ _ h=>h,fun _ _ _ h=>h,fun _ _ _ h=>h,fun _ _ _ h=>h,trivial⟩,trivial⟩)
theorem zuW {w0:World} (s:(List UInt8)) (i:Int) (v501:Int) (v502:Bool) (n504:Nat) (b505:UInt8) (v508:Bool) (e501:(((s:List UInt8).length:Int))=v501) (e502:(decide (i<v501))=v502) (e508:(((b505.toNat:Int) != (47:Int)))=v508) (h503:v502=true) (s506:i=(n504:Int)) (s507:(s:List UInt8)[n504]?=some b505) (h509:v508=false) (k:Int) (F:Fact) (u0:F.c 0=pS s) (u1:F.c 1=pI k) (q0:(i)=k) (R:Frm) (hR:R.pm=⟨ntOf Tryz.prog 31,[],[]⟩):Goes (KN w0) Tryz.prog R (lp Tryz.prog 31 0) (FL [pS s,pI i] []) zba (.x 0) F qI.out:=
 goes (Fb:=FL [pS s,pI i,pI v501,pB v502,pV (.int .u8 (b505.toNat:Int)),pB v508] []) (stb:=zba) (tl:=[.sl 0 (.o (.c (.h 0))),.sl 2 (.o (.c (.p 0 0))),.sl 3 (.o (.c (.k (.bool false)))),.sl 4 (.o (.c (.h 1))),.bx 0 28 [.k (.bool false),.k (.slice none 0 0),.k (.bool false),.k (.slice none 0 0)]]) (C:=[(1005002,.op (.len [9] 3) [LF (.h 0)] [] (LF (.h 2))),
  (1005003,.bin .lss 3 (LF (.h 1)) (LF (.h 2)) (LF (.h 3))),
  (10003,.fb 3 true),
  (1005007,.op (.ix 9) [LF (.h 0),LF (.h 1)] [] (LF (.h 4))),
  (1005008,.bin .neq 5 (LF (.h 4)) (LF (.k (.int .u8 47))) (LF (.h 5))),
  (10005,.fb 5 false)]) (H:=.no) 5000 (zipA.imp ⟨z_c (fun _ _ _ h=>h),z_c (fun _ _ _ h=>h),z_c (fun _ _ _ h=>h),z_c (fun _ _ _ h=>h),z_b ⟨fun _ _ _ h=>h,fun _ _ _ h=>h,fun _ _ _ h=>h,fun _ _ _ h=>h,trivial⟩,trivial⟩) (zm ⟨za rfl,za rfl,za rfl,za rfl,za rfl,za rfl,trivial⟩) ⟨e_op1 (zb rfl) (zb rfl) (fun W=>by rw [← e501];exact zbX (by kernel_rfl) W),
  e_bin (zb rfl) (zb rfl) (zb rfl) (r_cmp (congrArg some e502)),
  e_fb (show pV (.bool v502)=_ by rw [h503]),
  e_op2 (zb rfl) (zb rfl) (zb rfl) (r_ix (by kernel_rfl) s506 s507),
  e_bin (zb rfl) zg (zb rfl) (r_cmp (congrArg some e508)),
  e_fb (show pV (.bool v508)=_ by rw [h509]),
  trivial⟩ mixed hR trivial (fun _ _ _ hs=>by cases hs) (by kernel_rfl:q7 (KN w0) Tryz.prog _ .no ⟨ntOf Tryz.prog 31,[],[]⟩ (lp Tryz.prog 31 0) 5000 zba (.x 0) [.sl 0 (.o (.c (.h 0))),.sl 2 (.o (.c (.p 0 0))),.sl 3 (.o (.c (.k (.bool false)))),.sl 4 (.o (.c (.h 1))),.bx 0 28 [.k (.bool false),.k (.slice none 0 0),.k (.bool false),.k (.slice none 0 0)]]=true) rfl (zipA.imp ⟨z_c (fun β v W h=>(zd u0 β v W).2 h),z_c (fun _ _ _ h=>h),z_c (fun _ _ _ h=>h),z_c (fun β v W h=>(zd u1 β v W).2 (by rw [← q0];exact h)),z_b ⟨fun _ _ _ h=>h,fun _ _ _ h=>h,fun _ _ _ h=>h,fun _ _ _ h=>h,trivial⟩,trivial⟩)
theorem zuX {w0:World} (s:(List UInt8)) (i:Int) (v501:Int) (v502:Bool) (e501:(((s:List UInt8).length:Int))=v501) (e502:(decide (i<v501))=v502) (h503:v502=false) (k:Int) (F:Fact) (u0:F.c 0=pS s) (u1:F.c 1=pI k) (q0:(i)=k) (R:Frm) (hR:R.pm=⟨ntOf Tryz.prog 31,[],[]⟩):Goes (KN w0) Tryz.prog R (lp Tryz.prog 31 0) (FL [pS s,pI i] []) zba (.x 0) F qI.out:=
 goes (Fb:=FL [pS s,pI i,pI v501,pB v502] []) (stb:=zba) (tl:=[.sl 0 (.o (.c (.h 0))),.sl 2 (.o (.c (.p 0 0))),.sl 3 (.o (.c (.k (.bool false)))),.sl 4 (.o (.c (.h 1))),.bx 0 28 [.k (.bool false),.k (.slice none 0 0),.k (.bool false),.k (.slice none 0 0)]]) (C:=[(1005002,.op (.len [9] 3) [LF (.h 0)] [] (LF (.h 2))),
  (1005003,.bin .lss 3 (LF (.h 1)) (LF (.h 2)) (LF (.h 3))),
  (10003,.fb 3 false)]) (H:=.no) 5000 (zipA.imp ⟨z_c (fun _ _ _ h=>h),z_c (fun _ _ _ h=>h),z_c (fun _ _ _ h=>h),z_c (fun _ _ _ h=>h),z_b ⟨fun _ _ _ h=>h,fun _ _ _ h=>h,fun _ _ _ h=>h,fun _ _ _ h=>h,trivial⟩,trivial⟩) (zm ⟨za rfl,za rfl,za rfl,za rfl,trivial⟩) ⟨e_op1 (zb rfl) (zb rfl) (fun W=>by rw [← e501];exact zbX (by kernel_rfl) W),
  e_bin (zb rfl) (zb rfl) (zb rfl) (r_cmp (congrArg some e502)),
  e_fb (show pV (.bool v502)=_ by rw [h503]),
  trivial⟩ mixed hR trivial (fun _ _ _ hs=>by cases hs) (by kernel_rfl:q7 (KN w0) Tryz.prog _ .no ⟨ntOf Tryz.prog 31,[],[]⟩ (lp Tryz.prog 31 0) 5000 zba (.x 0) [.sl 0 (.o (.c (.h 0))),.sl 2 (.o (.c (.p 0 0))),.sl 3 (.o (.c (.k (.bool false)))),.sl 4 (.o (.c (.h 1))),.bx 0 28 [.k (.bool false),.k (.slice none 0 0),.k (.bool false),.k (.slice none 0 0)]]=true) rfl (zipA.imp ⟨z_c (fun β v W h=>(zd u0 β v W).2 h),z_c (fun _ _ _ h=>h),z_c (fun _ _ _ h=>h),z_c (fun β v W h=>(zd u1 β v W).2 (by rw [← q0];exact h)),z_b ⟨fun _ _ _ h=>h,fun _ _ _ h=>h,fun _ _ _ h=>h,fun _ _ _ h=>h,trivial⟩,trivial⟩)
def zwP (s:(List UInt8)) (t:rpar_T) (k:Int):Prop:=(∃(v501:Int),∃(v502:Bool),∃(n504:Nat),∃(b505:UInt8),∃(v508:Bool),((((s:List UInt8).length:Int))=v501)∧((decide (t.i<v501))=v502)∧((((b505.toNat:Int) != (47:Int)))=v508)∧(v502=true)∧(t.i=(n504:Int))∧((s:List UInt8)[n504]?=some b505)∧(v508=false)∧((t.i)=k)∧True)∨(∃(v501:Int),∃(v502:Bool),((((s:List UInt8).length:Int))=v501)∧((decide (t.i<v501))=v502)∧(v502=false)∧((t.i)=k)∧True)
def zwO (s:(List UInt8)) (t t':rpar_T):Prop:=(∃(v501:Int),∃(v502:Bool),∃(n504:Nat),∃(b505:UInt8),∃(v508:Bool),∃(v510:Int),((((s:List UInt8).length:Int))=v501)∧((decide (t.i<v501))=v502)∧((((b505.toNat:Int) != (47:Int)))=v508)∧((IntKind.i64.wrap (t.i+(1:Int)))=v510)∧(v502=true)∧(t.i=(n504:Int))∧((s:List UInt8)[n504]?=some b505)∧(v508=true)∧((v510)=t'.i)∧True)
theorem zpG {w0:World} (s:(List UInt8)) (k:Int) {F:Fact} (u0:F.c 0=pS s) (u1:F.c 1=pI k) (R:Frm) (hR:R.pm=⟨ntOf Tryz.prog 31,[],[]⟩) (J:rpar_T→Prop) (m:rpar_T→Nat) (hJ:J { i:=(0:Int) }) (rounds:∀t,J t→zwP s t k∨∃t',zwO s t t'∧m t'<m t∧J t'):zB (KN w0) Tryz.prog F R qI (lp Tryz.prog 31 0):=by
 refine za1 (T:=rpar_T) (fun t=>FL [pS s,pI t.i] []) J m { i:=(0:Int) } zba hJ (zipA.imp ⟨z_c (fun β v W h=>(zd u0 β v W).1 h),z_c (fun _ _ _ h=>h),z_c (fun _ _ _ h=>h),z_c (fun _ _ _ h=>h),z_b ⟨fun _ _ _ h=>h,fun _ _ _ h=>h,fun _ _ _ h=>h,fun _ _ _ h=>h,trivial⟩,trivial⟩) rfl fun t ht=>?_
 rcases rounds t ht with hz_ | ⟨t',hz_,hm_,hj_⟩
 ·refine .inl ?_
  rcases hz_ with ⟨v501,v502,n504,b505,v508,e501,e502,e508,h503,s506,s507,h509,q0,_⟩ | ⟨v501,v502,e501,e502,h503,q0,_⟩
  ·exact zuW  s  t.i v501 v502 n504 b505 v508 e501 e502 e508 h503 s506 s507 h509 k F u0 u1 q0 R hR
  ·exact zuX  s  t.i v501 v502 e501 e502 h503 k F u0 u1 q0 R hR
 ·refine .inr ⟨t',hm_,hj_,?_⟩
  rcases hz_ with ⟨v501,v502,n504,b505,v508,v510,e501,e502,e508,e510,h503,s506,s507,h509,q0,_⟩
  ·exact zuV  s  t.i v501 v502 n504 b505 v508 v510 e501 e502 e508 e510 h503 s506 s507 h509 t'.i q0 R hR
theorem zcx {w0:World} (s:(List UInt8)) (k:Int) {F:Fact} (u0:F.c 0=pS s) (u1:F.c 1=pI k) (R:Frm) (hR:R.pm=⟨ntOf Tryz.prog 31,[],[]⟩) (hk:k=(qe s:Int)) (hl:s.length≤1000):zB (KN w0) Tryz.prog F R qI (lp Tryz.prog 31 0):=by
 refine zpG  s  k u0 u1 R hR (fun ⟨i⟩=>∃n:Nat,i=(n:Int)∧n≤qe s) (fun ⟨i⟩=>(s.length - i).toNat) ⟨0,rfl,by omega⟩ fun t hJ=>?_
 obtain ⟨i⟩:=t
 dsimp only at hJ
 obtain ⟨n,hi,hn⟩:=hJ
 have hsl:=zjk s
 obtain ⟨v501,e501⟩:∃v,(((s:List UInt8).length:Int))=v:=⟨_,rfl⟩
 obtain ⟨v502,e502⟩:∃v,(decide (i<v501))=v:=⟨_,rfl⟩
 cases h503:v502 with
 | true =>
  obtain ⟨n504,b505,s506,s507⟩:∃(n504:Nat) (b505:UInt8),i=(n504:Int)∧(s:List UInt8)[n504]?=some b505:=by (have d:=of_decide_eq_true (e502.trans h503);have hlt:n<s.length:=(by omega);exact ⟨n,s[n],hi,List.getElem?_eq_getElem hlt⟩)
  obtain ⟨v508,e508⟩:∃v,(((b505.toNat:Int) != (47:Int)))=v:=⟨_,rfl⟩
  cases h509:v508 with
  | true =>
   obtain ⟨v510,e510⟩:∃v,(IntKind.i64.wrap (i+(1:Int)))=v:=⟨_,rfl⟩
   refine .inr ⟨⟨v510⟩,⟨v501,v502,n504,b505,v508,v510,e501,e502,e508,e510,h503,s506,s507,h509,rfl,trivial⟩,?_,?_⟩
   all_goals (dsimp only at *;have d1:=of_decide_eq_true (e502.trans h503);have en:n504=n:=(by omega);subst en;have st:=zhq s507 hn;have hb:¬ b505=47:=(fun hb=>by subst hb;rw [← e508] at h509;exact absurd h509 (by decide));rw [if_neg hb] at st;rw [wr64 (by omega)] at e510)
   ·show (s.length - v510:Int).toNat<(s.length - i:Int).toNat
    omega
   ·exact ⟨n504+1,by omega,st⟩
  | false =>
   refine .inl (Or.inl (⟨v501,v502,n504,b505,v508,e501,e502,e508,h503,s506,s507,h509,?_,trivial⟩))
   dsimp only at *
   have d1:=of_decide_eq_true (e502.trans h503)
   have en:n504=n:=by omega
   subst en
   have st:=zhq s507 hn
   have hb:b505=47:=by
    rw [← e508] at h509
    have h9:((b505.toNat:Int) == 47)=true:=by simpa [bne] using h509
    have h8:=beq_iff_eq.1 h9
    exact UInt8.toNat_inj.1 (by show b505.toNat=47;omega)
   rw [if_pos hb] at st
   omega
 | false =>
  refine .inl (Or.inr (⟨v501,v502,e501,e502,h503,?_,trivial⟩))
  dsimp only at *
  have d1:=of_decide_eq_false (e502.trans h503)
  omega
theorem zuM {w0:World} (s:(List UInt8)) (k:Int) (v1:Raw) (v4:Int) (v5:Bool) (v7:Int) (n8:Nat) (v10:(List UInt8)) (v12:Raw) (v13:Bool) (n15:Nat) (v17:(List UInt8)) (v19:Raw) (v20:Bool) (v22:Bool) (e1:(nz (1:Int))=v1) (e4:(((s:List UInt8).length:Int))=v4) (e5:(decide (k<v4))=v5) (e7:(IntKind.i64.wrap (k+(1:Int)))=v7) (e10:((s:List UInt8).drop n8)=v10) (e12:(nz (vO (zk v10)))=v12) (e13:(okO (zk v10))=v13) (e17:((s:List UInt8).take n15)=v17) (e19:(nz (vO (zk v17)))=v19) (e20:(okO (zk v17))=v20) (e22:(!v13)=v22) (s2:-9223372036854775808≤(1:Int)) (s3:(1:Int)<9223372036854775808) (h6:v5=true) (s9:v7=(n8:Int)) (s11:n8≤(s:List UInt8).length) (s14:(v10:List UInt8).length≤1000) (s16:k=(n15:Int)) (s18:n15≤(s:List UInt8).length) (s21:(v17:List UInt8).length≤1000) (h23:v22=true) (L_rpar:∀R:Frm,R.pm=⟨ntOf Tryz.prog 31,[],[]⟩→zB (KN w0) Tryz.prog (FL [pS s,pI k,pB v1.1,pD v1.2,pI v4,pB v5,pI v7,pS v10,pB v12.1,pD v12.2,pB v13,pS v17,pB v19.1,pD v19.2,pB v20,pB v22] []) R qI (lp Tryz.prog 31 0)):Fun (KN w0) Tryz.prog 31 [.o (.c (pS s))] (.t [.g [pV (.bool false),pV (.slice none 0 0),pV (.bool false),pV (.slice none 0 0)],.c (pV (.bool false))]):=
 zi (zac (F:=FL [pS s,pI k,pB v1.1,pD v1.2,pI v4,pB v5,pI v7,pS v10,pB v12.1,pD v12.2,pB v13,pS v17,pB v19.1,pD v19.2,pB v20,pB v22] []) (C:=[(1001003,.call ⟨55,[.o (.c (.k (.int .i64 1)))],[],.o (.g [.h 2,.h 3]),[]⟩),
  (1001009,.op (.len [9] 3) [LF (.h 0)] [] (LF (.h 4))),
  (1001010,.bin .lss 3 (LF (.h 1)) (LF (.h 4)) (LF (.h 5))),
  (10005,.fb 5 true),
  (1001013,.bin .add 3 (LF (.h 1)) (LF (.k (.int .i64 1))) (LF (.h 6))),
  (1001014,.op (.sc 9 true false false) [LF (.h 0),LF (.h 6)] [] (LF (.h 7))),
  (1001015,.call ⟨72,[.o (.c (.h 7))],[],.t [.g [.h 8,.h 9],.c (.h 10)],[]⟩),
  (1001023,.op (.sc 9 false true false) [LF (.h 0),LF (.h 1)] [] (LF (.h 11))),
  (1001024,.call ⟨72,[.o (.c (.h 11))],[],.t [.g [.h 12,.h 13],.c (.h 14)],[]⟩),
  (1001037,.un .not (LF (.h 10)) (LF (.h 15))),
  (10015,.fb 15 true)]) (k:=⟨31,[.o (.c (.h 0))],[],.t [.g [.k (.bool false),.k (.slice none 0 0),.k (.bool false),.k (.slice none 0 0)],.c (.k (.bool false))],[]⟩) ⟨[qI],[],0⟩ [] 0 (zm ⟨za rfl,za rfl,za rfl,ze,za rfl,za rfl,za rfl,za rfl,za rfl,ze,za rfl,za rfl,za rfl,ze,za rfl,za rfl,trivial⟩) ⟨zc (qy (1:Int) v1 e1 s2 s3) rfl rfl rfl rfl,
  e_op1 (zb rfl) (zb rfl) (fun W=>by rw [← e4];exact zbX (by kernel_rfl) W),
  e_bin (zb rfl) (zb rfl) (zb rfl) (r_cmp (congrArg some e5)),
  e_fb (show pV (.bool v5)=_ by rw [h6]),
  e_bin (zb rfl) zg (zb rfl) (r_ar (congrArg some e7)),
  e_op2 (zb rfl) (zb rfl) (zb rfl) (fun W=>by rw [← e10];exact zfZ (by kernel_rfl) s9 s11 W),
  zc (qz v10 v12 v13 e12 e13 s14) rfl rfl rfl rfl,
  e_op2 (zb rfl) (zb rfl) (zb rfl) (fun W=>by rw [← e17];exact zb9 (by kernel_rfl) s16 s18 W),
  zc (qz v17 v19 v20 e19 e20 s21) rfl rfl rfl rfl,
  e_un (zb rfl) (zb rfl) (fun W=>by rw [← e22];exact r_not W),
  e_fb (show pV (.bool v22)=_ by rw [h23]),
  trivial⟩ mixed trivial (fun R hR p hp s hs=>by
 have hl:qm (zat Tryz.prog 31)=[(2,lp Tryz.prog 31 0)]:=by kernel_rfl
 rw [hl] at hp
 simp only [List.mem_cons,List.not_mem_nil,or_false] at hp
 rcases hp with rfl
 ·have e:s=qI:=(Option.some.inj hs).symm
  subst e;exact L_rpar R hR) (by kernel_rfl)) rfl rfl rfl rfl
theorem zuN {w0:World} (s:(List UInt8)) (k:Int) (v1:Raw) (v4:Int) (v5:Bool) (v7:Int) (n8:Nat) (v10:(List UInt8)) (v12:Raw) (v13:Bool) (n15:Nat) (v17:(List UInt8)) (v19:Raw) (v20:Bool) (v22:Bool) (v24:Bool) (e1:(nz (1:Int))=v1) (e4:(((s:List UInt8).length:Int))=v4) (e5:(decide (k<v4))=v5) (e7:(IntKind.i64.wrap (k+(1:Int)))=v7) (e10:((s:List UInt8).drop n8)=v10) (e12:(nz (vO (zk v10)))=v12) (e13:(okO (zk v10))=v13) (e17:((s:List UInt8).take n15)=v17) (e19:(nz (vO (zk v17)))=v19) (e20:(okO (zk v17))=v20) (e22:(!v13)=v22) (e24:(!v20)=v24) (s2:-9223372036854775808≤(1:Int)) (s3:(1:Int)<9223372036854775808) (h6:v5=true) (s9:v7=(n8:Int)) (s11:n8≤(s:List UInt8).length) (s14:(v10:List UInt8).length≤1000) (s16:k=(n15:Int)) (s18:n15≤(s:List UInt8).length) (s21:(v17:List UInt8).length≤1000) (h23:v22=false) (h25:v24=true) (L_rpar:∀R:Frm,R.pm=⟨ntOf Tryz.prog 31,[],[]⟩→zB (KN w0) Tryz.prog (FL [pS s,pI k,pB v1.1,pD v1.2,pI v4,pB v5,pI v7,pS v10,pB v12.1,pD v12.2,pB v13,pS v17,pB v19.1,pD v19.2,pB v20,pB v22,pB v24] []) R qI (lp Tryz.prog 31 0)):Fun (KN w0) Tryz.prog 31 [.o (.c (pS s))] (.t [.g [pV (.bool false),pV (.slice none 0 0),pV (.bool false),pV (.slice none 0 0)],.c (pV (.bool false))]):=
 zi (zac (F:=FL [pS s,pI k,pB v1.1,pD v1.2,pI v4,pB v5,pI v7,pS v10,pB v12.1,pD v12.2,pB v13,pS v17,pB v19.1,pD v19.2,pB v20,pB v22,pB v24] []) (C:=[(1001003,.call ⟨55,[.o (.c (.k (.int .i64 1)))],[],.o (.g [.h 2,.h 3]),[]⟩),
  (1001009,.op (.len [9] 3) [LF (.h 0)] [] (LF (.h 4))),
  (1001010,.bin .lss 3 (LF (.h 1)) (LF (.h 4)) (LF (.h 5))),
  (10005,.fb 5 true),
  (1001013,.bin .add 3 (LF (.h 1)) (LF (.k (.int .i64 1))) (LF (.h 6))),
  (1001014,.op (.sc 9 true false false) [LF (.h 0),LF (.h 6)] [] (LF (.h 7))),
  (1001015,.call ⟨72,[.o (.c (.h 7))],[],.t [.g [.h 8,.h 9],.c (.h 10)],[]⟩),
  (1001023,.op (.sc 9 false true false) [LF (.h 0),LF (.h 1)] [] (LF (.h 11))),
  (1001024,.call ⟨72,[.o (.c (.h 11))],[],.t [.g [.h 12,.h 13],.c (.h 14)],[]⟩),
  (1001037,.un .not (LF (.h 10)) (LF (.h 15))),
  (10015,.fb 15 false),
  (1001040,.un .not (LF (.h 14)) (LF (.h 16))),
  (10016,.fb 16 true)]) (k:=⟨31,[.o (.c (.h 0))],[],.t [.g [.k (.bool false),.k (.slice none 0 0),.k (.bool false),.k (.slice none 0 0)],.c (.k (.bool false))],[]⟩) ⟨[qI],[],0⟩ [] 0 (zm ⟨za rfl,za rfl,za rfl,ze,za rfl,za rfl,za rfl,za rfl,za rfl,ze,za rfl,za rfl,za rfl,ze,za rfl,za rfl,za rfl,trivial⟩) ⟨zc (qy (1:Int) v1 e1 s2 s3) rfl rfl rfl rfl,
  e_op1 (zb rfl) (zb rfl) (fun W=>by rw [← e4];exact zbX (by kernel_rfl) W),
  e_bin (zb rfl) (zb rfl) (zb rfl) (r_cmp (congrArg some e5)),
  e_fb (show pV (.bool v5)=_ by rw [h6]),
  e_bin (zb rfl) zg (zb rfl) (r_ar (congrArg some e7)),
  e_op2 (zb rfl) (zb rfl) (zb rfl) (fun W=>by rw [← e10];exact zfZ (by kernel_rfl) s9 s11 W),
  zc (qz v10 v12 v13 e12 e13 s14) rfl rfl rfl rfl,
  e_op2 (zb rfl) (zb rfl) (zb rfl) (fun W=>by rw [← e17];exact zb9 (by kernel_rfl) s16 s18 W),
  zc (qz v17 v19 v20 e19 e20 s21) rfl rfl rfl rfl,
  e_un (zb rfl) (zb rfl) (fun W=>by rw [← e22];exact r_not W),
  e_fb (show pV (.bool v22)=_ by rw [h23]),
  e_un (zb rfl) (zb rfl) (fun W=>by rw [← e24];exact r_not W),
  e_fb (show pV (.bool v24)=_ by rw [h25]),
  trivial⟩ mixed trivial (fun R hR p hp s hs=>by
 have hl:qm (zat Tryz.prog 31)=[(2,lp Tryz.prog 31 0)]:=by kernel_rfl
 rw [hl] at hp
 simp only [List.mem_cons,List.not_mem_nil,or_false] at hp
 rcases hp with rfl
 ·have e:s=qI:=(Option.some.inj hs).symm
  subst e;exact L_rpar R hR) (by kernel_rfl)) rfl rfl rfl rfl
theorem zuO {w0:World} (s:(List UInt8)) (k:Int) (v1:Raw) (v4:Int) (v5:Bool) (v7:Int) (n8:Nat) (v10:(List UInt8)) (v12:Raw) (v13:Bool) (n15:Nat) (v17:(List UInt8)) (v19:Raw) (v20:Bool) (v22:Bool) (v24:Bool) (v26:Bool) (e1:(nz (1:Int))=v1) (e4:(((s:List UInt8).length:Int))=v4) (e5:(decide (k<v4))=v5) (e7:(IntKind.i64.wrap (k+(1:Int)))=v7) (e10:((s:List UInt8).drop n8)=v10) (e12:(nz (vO (zk v10)))=v12) (e13:(okO (zk v10))=v13) (e17:((s:List UInt8).take n15)=v17) (e19:(nz (vO (zk v17)))=v19) (e20:(okO (zk v17))=v20) (e22:(!v13)=v22) (e24:(!v20)=v24) (e26:(((s:List UInt8) == []))=v26) (s2:-9223372036854775808≤(1:Int)) (s3:(1:Int)<9223372036854775808) (h6:v5=true) (s9:v7=(n8:Int)) (s11:n8≤(s:List UInt8).length) (s14:(v10:List UInt8).length≤1000) (s16:k=(n15:Int)) (s18:n15≤(s:List UInt8).length) (s21:(v17:List UInt8).length≤1000) (h23:v22=false) (h25:v24=false) (h27:v26=true) (L_rpar:∀R:Frm,R.pm=⟨ntOf Tryz.prog 31,[],[]⟩→zB (KN w0) Tryz.prog (FL [pS s,pI k,pB v1.1,pD v1.2,pI v4,pB v5,pI v7,pS v10,pB v12.1,pD v12.2,pB v13,pS v17,pB v19.1,pD v19.2,pB v20,pB v22,pB v24,pB v26] []) R qI (lp Tryz.prog 31 0)):Fun (KN w0) Tryz.prog 31 [.o (.c (pS s))] (.t [.g [pV (.bool false),pV (.slice none 0 0),pV (.bool false),pV (.slice none 0 0)],.c (pV (.bool false))]):=
 zi (zac (F:=FL [pS s,pI k,pB v1.1,pD v1.2,pI v4,pB v5,pI v7,pS v10,pB v12.1,pD v12.2,pB v13,pS v17,pB v19.1,pD v19.2,pB v20,pB v22,pB v24,pB v26] []) (C:=[(1001003,.call ⟨55,[.o (.c (.k (.int .i64 1)))],[],.o (.g [.h 2,.h 3]),[]⟩),
  (1001009,.op (.len [9] 3) [LF (.h 0)] [] (LF (.h 4))),
  (1001010,.bin .lss 3 (LF (.h 1)) (LF (.h 4)) (LF (.h 5))),
  (10005,.fb 5 true),
  (1001013,.bin .add 3 (LF (.h 1)) (LF (.k (.int .i64 1))) (LF (.h 6))),
  (1001014,.op (.sc 9 true false false) [LF (.h 0),LF (.h 6)] [] (LF (.h 7))),
  (1001015,.call ⟨72,[.o (.c (.h 7))],[],.t [.g [.h 8,.h 9],.c (.h 10)],[]⟩),
  (1001023,.op (.sc 9 false true false) [LF (.h 0),LF (.h 1)] [] (LF (.h 11))),
  (1001024,.call ⟨72,[.o (.c (.h 11))],[],.t [.g [.h 12,.h 13],.c (.h 14)],[]⟩),
  (1001037,.un .not (LF (.h 10)) (LF (.h 15))),
  (10015,.fb 15 false),
  (1001040,.un .not (LF (.h 14)) (LF (.h 16))),
  (10016,.fb 16 false),
  (1001044,.bin .eql 9 (LF (.h 0)) (LF (.k (.string ⟨#[]⟩))) (LF (.h 17))),
  (10017,.fb 17 true)]) (k:=⟨31,[.o (.c (.h 0))],[],.t [.g [.k (.bool false),.k (.slice none 0 0),.k (.bool false),.k (.slice none 0 0)],.c (.k (.bool false))],[]⟩) ⟨[qI],[],0⟩ [] 0 (zm ⟨za rfl,za rfl,za rfl,ze,za rfl,za rfl,za rfl,za rfl,za rfl,ze,za rfl,za rfl,za rfl,ze,za rfl,za rfl,za rfl,za rfl,trivial⟩) ⟨zc (qy (1:Int) v1 e1 s2 s3) rfl rfl rfl rfl,
  e_op1 (zb rfl) (zb rfl) (fun W=>by rw [← e4];exact zbX (by kernel_rfl) W),
  e_bin (zb rfl) (zb rfl) (zb rfl) (r_cmp (congrArg some e5)),
  e_fb (show pV (.bool v5)=_ by rw [h6]),
  e_bin (zb rfl) zg (zb rfl) (r_ar (congrArg some e7)),
  e_op2 (zb rfl) (zb rfl) (zb rfl) (fun W=>by rw [← e10];exact zfZ (by kernel_rfl) s9 s11 W),
  zc (qz v10 v12 v13 e12 e13 s14) rfl rfl rfl rfl,
  e_op2 (zb rfl) (zb rfl) (zb rfl) (fun W=>by rw [← e17];exact zb9 (by kernel_rfl) s16 s18 W),
  zc (qz v17 v19 v20 e19 e20 s21) rfl rfl rfl rfl,
  e_un (zb rfl) (zb rfl) (fun W=>by rw [← e22];exact r_not W),
  e_fb (show pV (.bool v22)=_ by rw [h23]),
  e_un (zb rfl) (zb rfl) (fun W=>by rw [← e24];exact r_not W),
  e_fb (show pV (.bool v24)=_ by rw [h25]),
  e_bin (zb rfl) zg (zb rfl) (fun W X Y=>by rw [← e26];exact r_seq W X Y),
  e_fb (show pV (.bool v26)=_ by rw [h27]),
  trivial⟩ mixed trivial (fun R hR p hp s hs=>by
 have hl:qm (zat Tryz.prog 31)=[(2,lp Tryz.prog 31 0)]:=by kernel_rfl
 rw [hl] at hp
 simp only [List.mem_cons,List.not_mem_nil,or_false] at hp
 rcases hp with rfl
 ·have e:s=qI:=(Option.some.inj hs).symm
  subst e;exact L_rpar R hR) (by kernel_rfl)) rfl rfl rfl rfl
theorem zuP {w0:World} (s:(List UInt8)) (k:Int) (v1:Raw) (v4:Int) (v5:Bool) (v7:Int) (n8:Nat) (v10:(List UInt8)) (v12:Raw) (v13:Bool) (n15:Nat) (v17:(List UInt8)) (v19:Raw) (v20:Bool) (v22:Bool) (v24:Bool) (v26:Bool) (v28:(List UInt8)) (v29:Bool) (e1:(nz (1:Int))=v1) (e4:(((s:List UInt8).length:Int))=v4) (e5:(decide (k<v4))=v5) (e7:(IntKind.i64.wrap (k+(1:Int)))=v7) (e10:((s:List UInt8).drop n8)=v10) (e12:(nz (vO (zk v10)))=v12) (e13:(okO (zk v10))=v13) (e17:((s:List UInt8).take n15)=v17) (e19:(nz (vO (zk v17)))=v19) (e20:(okO (zk v17))=v20) (e22:(!v13)=v22) (e24:(!v20)=v24) (e26:(((s:List UInt8) == []))=v26) (e28:(textR (v19,v12))=v28) (e29:(!((v28:List UInt8) == s))=v29) (s2:-9223372036854775808≤(1:Int)) (s3:(1:Int)<9223372036854775808) (h6:v5=true) (s9:v7=(n8:Int)) (s11:n8≤(s:List UInt8).length) (s14:(v10:List UInt8).length≤1000) (s16:k=(n15:Int)) (s18:n15≤(s:List UInt8).length) (s21:(v17:List UInt8).length≤1000) (h23:v22=false) (h25:v24=false) (h27:v26=false) (h30:v29=true) (L_rpar:∀R:Frm,R.pm=⟨ntOf Tryz.prog 31,[],[]⟩→zB (KN w0) Tryz.prog (FL [pS s,pI k,pB v1.1,pD v1.2,pI v4,pB v5,pI v7,pS v10,pB v12.1,pD v12.2,pB v13,pS v17,pB v19.1,pD v19.2,pB v20,pB v22,pB v24,pB v26,pS v28,pB v29] []) R qI (lp Tryz.prog 31 0)):Fun (KN w0) Tryz.prog 31 [.o (.c (pS s))] (.t [.g [pV (.bool false),pV (.slice none 0 0),pV (.bool false),pV (.slice none 0 0)],.c (pV (.bool false))]):=
 zi (zac (F:=FL [pS s,pI k,pB v1.1,pD v1.2,pI v4,pB v5,pI v7,pS v10,pB v12.1,pD v12.2,pB v13,pS v17,pB v19.1,pD v19.2,pB v20,pB v22,pB v24,pB v26,pS v28,pB v29] []) (C:=[(1001003,.call ⟨55,[.o (.c (.k (.int .i64 1)))],[],.o (.g [.h 2,.h 3]),[]⟩),
  (1001009,.op (.len [9] 3) [LF (.h 0)] [] (LF (.h 4))),
  (1001010,.bin .lss 3 (LF (.h 1)) (LF (.h 4)) (LF (.h 5))),
  (10005,.fb 5 true),
  (1001013,.bin .add 3 (LF (.h 1)) (LF (.k (.int .i64 1))) (LF (.h 6))),
  (1001014,.op (.sc 9 true false false) [LF (.h 0),LF (.h 6)] [] (LF (.h 7))),
  (1001015,.call ⟨72,[.o (.c (.h 7))],[],.t [.g [.h 8,.h 9],.c (.h 10)],[]⟩),
  (1001023,.op (.sc 9 false true false) [LF (.h 0),LF (.h 1)] [] (LF (.h 11))),
  (1001024,.call ⟨72,[.o (.c (.h 11))],[],.t [.g [.h 12,.h 13],.c (.h 14)],[]⟩),
  (1001037,.un .not (LF (.h 10)) (LF (.h 15))),
  (10015,.fb 15 false),
  (1001040,.un .not (LF (.h 14)) (LF (.h 16))),
  (10016,.fb 16 false),
  (1001044,.bin .eql 9 (LF (.h 0)) (LF (.k (.string ⟨#[]⟩))) (LF (.h 17))),
  (10017,.fb 17 false),
  (1001048,.call ⟨29,[.o (.g [.h 12,.h 13,.h 8,.h 9])],[],.o (.c (.h 18)),[]⟩),
  (1001050,.bin .neq 9 (LF (.h 18)) (LF (.h 0)) (LF (.h 19))),
  (10019,.fb 19 true)]) (k:=⟨31,[.o (.c (.h 0))],[],.t [.g [.k (.bool false),.k (.slice none 0 0),.k (.bool false),.k (.slice none 0 0)],.c (.k (.bool false))],[]⟩) ⟨[qI],[],0⟩ [] 0 (zm ⟨za rfl,za rfl,za rfl,ze,za rfl,za rfl,za rfl,za rfl,za rfl,ze,za rfl,za rfl,za rfl,ze,za rfl,za rfl,za rfl,za rfl,za rfl,za rfl,trivial⟩) ⟨zc (qy (1:Int) v1 e1 s2 s3) rfl rfl rfl rfl,
  e_op1 (zb rfl) (zb rfl) (fun W=>by rw [← e4];exact zbX (by kernel_rfl) W),
  e_bin (zb rfl) (zb rfl) (zb rfl) (r_cmp (congrArg some e5)),
  e_fb (show pV (.bool v5)=_ by rw [h6]),
  e_bin (zb rfl) zg (zb rfl) (r_ar (congrArg some e7)),
  e_op2 (zb rfl) (zb rfl) (zb rfl) (fun W=>by rw [← e10];exact zfZ (by kernel_rfl) s9 s11 W),
  zc (qz v10 v12 v13 e12 e13 s14) rfl rfl rfl rfl,
  e_op2 (zb rfl) (zb rfl) (zb rfl) (fun W=>by rw [← e17];exact zb9 (by kernel_rfl) s16 s18 W),
  zc (qz v17 v19 v20 e19 e20 s21) rfl rfl rfl rfl,
  e_un (zb rfl) (zb rfl) (fun W=>by rw [← e22];exact r_not W),
  e_fb (show pV (.bool v22)=_ by rw [h23]),
  e_un (zb rfl) (zb rfl) (fun W=>by rw [← e24];exact r_not W),
  e_fb (show pV (.bool v24)=_ by rw [h25]),
  e_bin (zb rfl) zg (zb rfl) (fun W X Y=>by rw [← e26];exact r_seq W X Y),
  e_fb (show pV (.bool v26)=_ by rw [h27]),
  zc (zbD (v19,v12) v28 e28) rfl rfl rfl rfl,
  e_bin (zb rfl) (zb rfl) (zb rfl) (fun W X Y=>by rw [← e29];exact r_sne W X Y),
  e_fb (show pV (.bool v29)=_ by rw [h30]),
  trivial⟩ mixed trivial (fun R hR p hp s hs=>by
 have hl:qm (zat Tryz.prog 31)=[(2,lp Tryz.prog 31 0)]:=by kernel_rfl
 rw [hl] at hp
 simp only [List.mem_cons,List.not_mem_nil,or_false] at hp
 rcases hp with rfl
 ·have e:s=qI:=(Option.some.inj hs).symm
  subst e;exact L_rpar R hR) (by kernel_rfl)) rfl rfl rfl rfl
theorem zuQ {w0:World} (s:(List UInt8)) (k:Int) (v1:Raw) (v4:Int) (v5:Bool) (v7:Int) (n8:Nat) (v10:(List UInt8)) (v12:Raw) (v13:Bool) (n15:Nat) (v17:(List UInt8)) (v19:Raw) (v20:Bool) (v22:Bool) (v24:Bool) (v26:Bool) (v28:(List UInt8)) (v29:Bool) (e1:(nz (1:Int))=v1) (e4:(((s:List UInt8).length:Int))=v4) (e5:(decide (k<v4))=v5) (e7:(IntKind.i64.wrap (k+(1:Int)))=v7) (e10:((s:List UInt8).drop n8)=v10) (e12:(nz (vO (zk v10)))=v12) (e13:(okO (zk v10))=v13) (e17:((s:List UInt8).take n15)=v17) (e19:(nz (vO (zk v17)))=v19) (e20:(okO (zk v17))=v20) (e22:(!v13)=v22) (e24:(!v20)=v24) (e26:(((s:List UInt8) == []))=v26) (e28:(textR (v19,v12))=v28) (e29:(!((v28:List UInt8) == s))=v29) (s2:-9223372036854775808≤(1:Int)) (s3:(1:Int)<9223372036854775808) (h6:v5=true) (s9:v7=(n8:Int)) (s11:n8≤(s:List UInt8).length) (s14:(v10:List UInt8).length≤1000) (s16:k=(n15:Int)) (s18:n15≤(s:List UInt8).length) (s21:(v17:List UInt8).length≤1000) (h23:v22=false) (h25:v24=false) (h27:v26=false) (h30:v29=false) (L_rpar:∀R:Frm,R.pm=⟨ntOf Tryz.prog 31,[],[]⟩→zB (KN w0) Tryz.prog (FL [pS s,pI k,pB v1.1,pD v1.2,pI v4,pB v5,pI v7,pS v10,pB v12.1,pD v12.2,pB v13,pS v17,pB v19.1,pD v19.2,pB v20,pB v22,pB v24,pB v26,pS v28,pB v29] []) R qI (lp Tryz.prog 31 0)):Fun (KN w0) Tryz.prog 31 [.o (.c (pS s))] (.t [.g [pB v19.1,pD v19.2,pB v12.1,pD v12.2],.c (pV (.bool true))]):=
 zi (zac (F:=FL [pS s,pI k,pB v1.1,pD v1.2,pI v4,pB v5,pI v7,pS v10,pB v12.1,pD v12.2,pB v13,pS v17,pB v19.1,pD v19.2,pB v20,pB v22,pB v24,pB v26,pS v28,pB v29] []) (C:=[(1001003,.call ⟨55,[.o (.c (.k (.int .i64 1)))],[],.o (.g [.h 2,.h 3]),[]⟩),
  (1001009,.op (.len [9] 3) [LF (.h 0)] [] (LF (.h 4))),
  (1001010,.bin .lss 3 (LF (.h 1)) (LF (.h 4)) (LF (.h 5))),
  (10005,.fb 5 true),
  (1001013,.bin .add 3 (LF (.h 1)) (LF (.k (.int .i64 1))) (LF (.h 6))),
  (1001014,.op (.sc 9 true false false) [LF (.h 0),LF (.h 6)] [] (LF (.h 7))),
  (1001015,.call ⟨72,[.o (.c (.h 7))],[],.t [.g [.h 8,.h 9],.c (.h 10)],[]⟩),
  (1001023,.op (.sc 9 false true false) [LF (.h 0),LF (.h 1)] [] (LF (.h 11))),
  (1001024,.call ⟨72,[.o (.c (.h 11))],[],.t [.g [.h 12,.h 13],.c (.h 14)],[]⟩),
  (1001037,.un .not (LF (.h 10)) (LF (.h 15))),
  (10015,.fb 15 false),
  (1001040,.un .not (LF (.h 14)) (LF (.h 16))),
  (10016,.fb 16 false),
  (1001044,.bin .eql 9 (LF (.h 0)) (LF (.k (.string ⟨#[]⟩))) (LF (.h 17))),
  (10017,.fb 17 false),
  (1001048,.call ⟨29,[.o (.g [.h 12,.h 13,.h 8,.h 9])],[],.o (.c (.h 18)),[]⟩),
  (1001050,.bin .neq 9 (LF (.h 18)) (LF (.h 0)) (LF (.h 19))),
  (10019,.fb 19 false)]) (k:=⟨31,[.o (.c (.h 0))],[],.t [.g [.h 12,.h 13,.h 8,.h 9],.c (.k (.bool true))],[]⟩) ⟨[qI],[],0⟩ [] 0 (zm ⟨za rfl,za rfl,za rfl,ze,za rfl,za rfl,za rfl,za rfl,za rfl,ze,za rfl,za rfl,za rfl,ze,za rfl,za rfl,za rfl,za rfl,za rfl,za rfl,trivial⟩) ⟨zc (qy (1:Int) v1 e1 s2 s3) rfl rfl rfl rfl,
  e_op1 (zb rfl) (zb rfl) (fun W=>by rw [← e4];exact zbX (by kernel_rfl) W),
  e_bin (zb rfl) (zb rfl) (zb rfl) (r_cmp (congrArg some e5)),
  e_fb (show pV (.bool v5)=_ by rw [h6]),
  e_bin (zb rfl) zg (zb rfl) (r_ar (congrArg some e7)),
  e_op2 (zb rfl) (zb rfl) (zb rfl) (fun W=>by rw [← e10];exact zfZ (by kernel_rfl) s9 s11 W),
  zc (qz v10 v12 v13 e12 e13 s14) rfl rfl rfl rfl,
  e_op2 (zb rfl) (zb rfl) (zb rfl) (fun W=>by rw [← e17];exact zb9 (by kernel_rfl) s16 s18 W),
  zc (qz v17 v19 v20 e19 e20 s21) rfl rfl rfl rfl,
  e_un (zb rfl) (zb rfl) (fun W=>by rw [← e22];exact r_not W),
  e_fb (show pV (.bool v22)=_ by rw [h23]),
  e_un (zb rfl) (zb rfl) (fun W=>by rw [← e24];exact r_not W),
  e_fb (show pV (.bool v24)=_ by rw [h25]),
  e_bin (zb rfl) zg (zb rfl) (fun W X Y=>by rw [← e26];exact r_seq W X Y),
  e_fb (show pV (.bool v26)=_ by rw [h27]),
  zc (zbD (v19,v12) v28 e28) rfl rfl rfl rfl,
  e_bin (zb rfl) (zb rfl) (zb rfl) (fun W X Y=>by rw [← e29];exact r_sne W X Y),
  e_fb (show pV (.bool v29)=_ by rw [h30]),
  trivial⟩ mixed trivial (fun R hR p hp s hs=>by
 have hl:qm (zat Tryz.prog 31)=[(2,lp Tryz.prog 31 0)]:=by kernel_rfl
 rw [hl] at hp
 simp only [List.mem_cons,List.not_mem_nil,or_false] at hp
 rcases hp with rfl
 ·have e:s=qI:=(Option.some.inj hs).symm
  subst e;exact L_rpar R hR) (by kernel_rfl)) rfl rfl rfl rfl
theorem zuR {w0:World} (s:(List UInt8)) (k:Int) (v1:Raw) (v4:Int) (v5:Bool) (n7:Nat) (v9:(List UInt8)) (v11:Raw) (v12:Bool) (v14:Bool) (e1:(nz (1:Int))=v1) (e4:(((s:List UInt8).length:Int))=v4) (e5:(decide (k<v4))=v5) (e9:((s:List UInt8).take n7)=v9) (e11:(nz (vO (zk v9)))=v11) (e12:(okO (zk v9))=v12) (e14:(!v12)=v14) (s2:-9223372036854775808≤(1:Int)) (s3:(1:Int)<9223372036854775808) (h6:v5=false) (s8:k=(n7:Int)) (s10:n7≤(s:List UInt8).length) (s13:(v9:List UInt8).length≤1000) (h15:v14=true) (L_rpar:∀R:Frm,R.pm=⟨ntOf Tryz.prog 31,[],[]⟩→zB (KN w0) Tryz.prog (FL [pS s,pI k,pB v1.1,pD v1.2,pI v4,pB v5,pS v9,pB v11.1,pD v11.2,pB v12,pB v14] []) R qI (lp Tryz.prog 31 0)):Fun (KN w0) Tryz.prog 31 [.o (.c (pS s))] (.t [.g [pV (.bool false),pV (.slice none 0 0),pV (.bool false),pV (.slice none 0 0)],.c (pV (.bool false))]):=
 zi (zac (F:=FL [pS s,pI k,pB v1.1,pD v1.2,pI v4,pB v5,pS v9,pB v11.1,pD v11.2,pB v12,pB v14] []) (C:=[(1001003,.call ⟨55,[.o (.c (.k (.int .i64 1)))],[],.o (.g [.h 2,.h 3]),[]⟩),
  (1001009,.op (.len [9] 3) [LF (.h 0)] [] (LF (.h 4))),
  (1001010,.bin .lss 3 (LF (.h 1)) (LF (.h 4)) (LF (.h 5))),
  (10005,.fb 5 false),
  (1001013,.op (.sc 9 false true false) [LF (.h 0),LF (.h 1)] [] (LF (.h 6))),
  (1001014,.call ⟨72,[.o (.c (.h 6))],[],.t [.g [.h 7,.h 8],.c (.h 9)],[]⟩),
  (1001030,.un .not (LF (.h 9)) (LF (.h 10))),
  (10010,.fb 10 true)]) (k:=⟨31,[.o (.c (.h 0))],[],.t [.g [.k (.bool false),.k (.slice none 0 0),.k (.bool false),.k (.slice none 0 0)],.c (.k (.bool false))],[]⟩) ⟨[qI],[],0⟩ [] 0 (zm ⟨za rfl,za rfl,za rfl,ze,za rfl,za rfl,za rfl,za rfl,ze,za rfl,za rfl,trivial⟩) ⟨zc (qy (1:Int) v1 e1 s2 s3) rfl rfl rfl rfl,
  e_op1 (zb rfl) (zb rfl) (fun W=>by rw [← e4];exact zbX (by kernel_rfl) W),
  e_bin (zb rfl) (zb rfl) (zb rfl) (r_cmp (congrArg some e5)),
  e_fb (show pV (.bool v5)=_ by rw [h6]),
  e_op2 (zb rfl) (zb rfl) (zb rfl) (fun W=>by rw [← e9];exact zb9 (by kernel_rfl) s8 s10 W),
  zc (qz v9 v11 v12 e11 e12 s13) rfl rfl rfl rfl,
  e_un (zb rfl) (zb rfl) (fun W=>by rw [← e14];exact r_not W),
  e_fb (show pV (.bool v14)=_ by rw [h15]),
  trivial⟩ mixed trivial (fun R hR p hp s hs=>by
 have hl:qm (zat Tryz.prog 31)=[(2,lp Tryz.prog 31 0)]:=by kernel_rfl
 rw [hl] at hp
 simp only [List.mem_cons,List.not_mem_nil,or_false] at hp
 rcases hp with rfl
 ·have e:s=qI:=(Option.some.inj hs).symm
  subst e;exact L_rpar R hR) (by kernel_rfl)) rfl rfl rfl rfl
theorem zuS {w0:World} (s:(List UInt8)) (k:Int) (v1:Raw) (v4:Int) (v5:Bool) (n7:Nat) (v9:(List UInt8)) (v11:Raw) (v12:Bool) (v14:Bool) (v16:Bool) (e1:(nz (1:Int))=v1) (e4:(((s:List UInt8).length:Int))=v4) (e5:(decide (k<v4))=v5) (e9:((s:List UInt8).take n7)=v9) (e11:(nz (vO (zk v9)))=v11) (e12:(okO (zk v9))=v12) (e14:(!v12)=v14) (e16:(((s:List UInt8) == []))=v16) (s2:-9223372036854775808≤(1:Int)) (s3:(1:Int)<9223372036854775808) (h6:v5=false) (s8:k=(n7:Int)) (s10:n7≤(s:List UInt8).length) (s13:(v9:List UInt8).length≤1000) (h15:v14=false) (h17:v16=true) (L_rpar:∀R:Frm,R.pm=⟨ntOf Tryz.prog 31,[],[]⟩→zB (KN w0) Tryz.prog (FL [pS s,pI k,pB v1.1,pD v1.2,pI v4,pB v5,pS v9,pB v11.1,pD v11.2,pB v12,pB v14,pB v16] []) R qI (lp Tryz.prog 31 0)):Fun (KN w0) Tryz.prog 31 [.o (.c (pS s))] (.t [.g [pV (.bool false),pV (.slice none 0 0),pV (.bool false),pV (.slice none 0 0)],.c (pV (.bool false))]):=
 zi (zac (F:=FL [pS s,pI k,pB v1.1,pD v1.2,pI v4,pB v5,pS v9,pB v11.1,pD v11.2,pB v12,pB v14,pB v16] []) (C:=[(1001003,.call ⟨55,[.o (.c (.k (.int .i64 1)))],[],.o (.g [.h 2,.h 3]),[]⟩),
  (1001009,.op (.len [9] 3) [LF (.h 0)] [] (LF (.h 4))),
  (1001010,.bin .lss 3 (LF (.h 1)) (LF (.h 4)) (LF (.h 5))),
  (10005,.fb 5 false),
  (1001013,.op (.sc 9 false true false) [LF (.h 0),LF (.h 1)] [] (LF (.h 6))),
  (1001014,.call ⟨72,[.o (.c (.h 6))],[],.t [.g [.h 7,.h 8],.c (.h 9)],[]⟩),
  (1001030,.un .not (LF (.h 9)) (LF (.h 10))),
  (10010,.fb 10 false),
  (1001034,.bin .eql 9 (LF (.h 0)) (LF (.k (.string ⟨#[]⟩))) (LF (.h 11))),
  (10011,.fb 11 true)]) (k:=⟨31,[.o (.c (.h 0))],[],.t [.g [.k (.bool false),.k (.slice none 0 0),.k (.bool false),.k (.slice none 0 0)],.c (.k (.bool false))],[]⟩) ⟨[qI],[],0⟩ [] 0 (zm ⟨za rfl,za rfl,za rfl,ze,za rfl,za rfl,za rfl,za rfl,ze,za rfl,za rfl,za rfl,trivial⟩) ⟨zc (qy (1:Int) v1 e1 s2 s3) rfl rfl rfl rfl,
  e_op1 (zb rfl) (zb rfl) (fun W=>by rw [← e4];exact zbX (by kernel_rfl) W),
  e_bin (zb rfl) (zb rfl) (zb rfl) (r_cmp (congrArg some e5)),
  e_fb (show pV (.bool v5)=_ by rw [h6]),
  e_op2 (zb rfl) (zb rfl) (zb rfl) (fun W=>by rw [← e9];exact zb9 (by kernel_rfl) s8 s10 W),
  zc (qz v9 v11 v12 e11 e12 s13) rfl rfl rfl rfl,
  e_un (zb rfl) (zb rfl) (fun W=>by rw [← e14];exact r_not W),
  e_fb (show pV (.bool v14)=_ by rw [h15]),
  e_bin (zb rfl) zg (zb rfl) (fun W X Y=>by rw [← e16];exact r_seq W X Y),
  e_fb (show pV (.bool v16)=_ by rw [h17]),
  trivial⟩ mixed trivial (fun R hR p hp s hs=>by
 have hl:qm (zat Tryz.prog 31)=[(2,lp Tryz.prog 31 0)]:=by kernel_rfl
 rw [hl] at hp
 simp only [List.mem_cons,List.not_mem_nil,or_false] at hp
 rcases hp with rfl
 ·have e:s=qI:=(Option.some.inj hs).symm
  subst e;exact L_rpar R hR) (by kernel_rfl)) rfl rfl rfl rfl
theorem zuT {w0:World} (s:(List UInt8)) (k:Int) (v1:Raw) (v4:Int) (v5:Bool) (n7:Nat) (v9:(List UInt8)) (v11:Raw) (v12:Bool) (v14:Bool) (v16:Bool) (v18:(List UInt8)) (v19:Bool) (e1:(nz (1:Int))=v1) (e4:(((s:List UInt8).length:Int))=v4) (e5:(decide (k<v4))=v5) (e9:((s:List UInt8).take n7)=v9) (e11:(nz (vO (zk v9)))=v11) (e12:(okO (zk v9))=v12) (e14:(!v12)=v14) (e16:(((s:List UInt8) == []))=v16) (e18:(textR (v11,v1))=v18) (e19:(!((v18:List UInt8) == s))=v19) (s2:-9223372036854775808≤(1:Int)) (s3:(1:Int)<9223372036854775808) (h6:v5=false) (s8:k=(n7:Int)) (s10:n7≤(s:List UInt8).length) (s13:(v9:List UInt8).length≤1000) (h15:v14=false) (h17:v16=false) (h20:v19=true) (L_rpar:∀R:Frm,R.pm=⟨ntOf Tryz.prog 31,[],[]⟩→zB (KN w0) Tryz.prog (FL [pS s,pI k,pB v1.1,pD v1.2,pI v4,pB v5,pS v9,pB v11.1,pD v11.2,pB v12,pB v14,pB v16,pS v18,pB v19] []) R qI (lp Tryz.prog 31 0)):Fun (KN w0) Tryz.prog 31 [.o (.c (pS s))] (.t [.g [pV (.bool false),pV (.slice none 0 0),pV (.bool false),pV (.slice none 0 0)],.c (pV (.bool false))]):=
 zi (zac (F:=FL [pS s,pI k,pB v1.1,pD v1.2,pI v4,pB v5,pS v9,pB v11.1,pD v11.2,pB v12,pB v14,pB v16,pS v18,pB v19] []) (C:=[(1001003,.call ⟨55,[.o (.c (.k (.int .i64 1)))],[],.o (.g [.h 2,.h 3]),[]⟩),
  (1001009,.op (.len [9] 3) [LF (.h 0)] [] (LF (.h 4))),
  (1001010,.bin .lss 3 (LF (.h 1)) (LF (.h 4)) (LF (.h 5))),
  (10005,.fb 5 false),
  (1001013,.op (.sc 9 false true false) [LF (.h 0),LF (.h 1)] [] (LF (.h 6))),
  (1001014,.call ⟨72,[.o (.c (.h 6))],[],.t [.g [.h 7,.h 8],.c (.h 9)],[]⟩),
  (1001030,.un .not (LF (.h 9)) (LF (.h 10))),
  (10010,.fb 10 false),
  (1001034,.bin .eql 9 (LF (.h 0)) (LF (.k (.string ⟨#[]⟩))) (LF (.h 11))),
  (10011,.fb 11 false),
  (1001038,.call ⟨29,[.o (.g [.h 7,.h 8,.h 2,.h 3])],[],.o (.c (.h 12)),[]⟩),
  (1001040,.bin .neq 9 (LF (.h 12)) (LF (.h 0)) (LF (.h 13))),
  (10013,.fb 13 true)]) (k:=⟨31,[.o (.c (.h 0))],[],.t [.g [.k (.bool false),.k (.slice none 0 0),.k (.bool false),.k (.slice none 0 0)],.c (.k (.bool false))],[]⟩) ⟨[qI],[],0⟩ [] 0 (zm ⟨za rfl,za rfl,za rfl,ze,za rfl,za rfl,za rfl,za rfl,ze,za rfl,za rfl,za rfl,za rfl,za rfl,trivial⟩) ⟨zc (qy (1:Int) v1 e1 s2 s3) rfl rfl rfl rfl,
  e_op1 (zb rfl) (zb rfl) (fun W=>by rw [← e4];exact zbX (by kernel_rfl) W),
  e_bin (zb rfl) (zb rfl) (zb rfl) (r_cmp (congrArg some e5)),
  e_fb (show pV (.bool v5)=_ by rw [h6]),
  e_op2 (zb rfl) (zb rfl) (zb rfl) (fun W=>by rw [← e9];exact zb9 (by kernel_rfl) s8 s10 W),
  zc (qz v9 v11 v12 e11 e12 s13) rfl rfl rfl rfl,
  e_un (zb rfl) (zb rfl) (fun W=>by rw [← e14];exact r_not W),
  e_fb (show pV (.bool v14)=_ by rw [h15]),
  e_bin (zb rfl) zg (zb rfl) (fun W X Y=>by rw [← e16];exact r_seq W X Y),
  e_fb (show pV (.bool v16)=_ by rw [h17]),
  zc (zbD (v11,v1) v18 e18) rfl rfl rfl rfl,
  e_bin (zb rfl) (zb rfl) (zb rfl) (fun W X Y=>by rw [← e19];exact r_sne W X Y),
  e_fb (show pV (.bool v19)=_ by rw [h20]),
  trivial⟩ mixed trivial (fun R hR p hp s hs=>by
 have hl:qm (zat Tryz.prog 31)=[(2,lp Tryz.prog 31 0)]:=by kernel_rfl
 rw [hl] at hp
 simp only [List.mem_cons,List.not_mem_nil,or_false] at hp
 rcases hp with rfl
 ·have e:s=qI:=(Option.some.inj hs).symm
  subst e;exact L_rpar R hR) (by kernel_rfl)) rfl rfl rfl rfl
theorem zuU {w0:World} (s:(List UInt8)) (k:Int) (v1:Raw) (v4:Int) (v5:Bool) (n7:Nat) (v9:(List UInt8)) (v11:Raw) (v12:Bool) (v14:Bool) (v16:Bool) (v18:(List UInt8)) (v19:Bool) (e1:(nz (1:Int))=v1) (e4:(((s:List UInt8).length:Int))=v4) (e5:(decide (k<v4))=v5) (e9:((s:List UInt8).take n7)=v9) (e11:(nz (vO (zk v9)))=v11) (e12:(okO (zk v9))=v12) (e14:(!v12)=v14) (e16:(((s:List UInt8) == []))=v16) (e18:(textR (v11,v1))=v18) (e19:(!((v18:List UInt8) == s))=v19) (s2:-9223372036854775808≤(1:Int)) (s3:(1:Int)<9223372036854775808) (h6:v5=false) (s8:k=(n7:Int)) (s10:n7≤(s:List UInt8).length) (s13:(v9:List UInt8).length≤1000) (h15:v14=false) (h17:v16=false) (h20:v19=false) (L_rpar:∀R:Frm,R.pm=⟨ntOf Tryz.prog 31,[],[]⟩→zB (KN w0) Tryz.prog (FL [pS s,pI k,pB v1.1,pD v1.2,pI v4,pB v5,pS v9,pB v11.1,pD v11.2,pB v12,pB v14,pB v16,pS v18,pB v19] []) R qI (lp Tryz.prog 31 0)):Fun (KN w0) Tryz.prog 31 [.o (.c (pS s))] (.t [.g [pB v11.1,pD v11.2,pB v1.1,pD v1.2],.c (pV (.bool true))]):=
 zi (zac (F:=FL [pS s,pI k,pB v1.1,pD v1.2,pI v4,pB v5,pS v9,pB v11.1,pD v11.2,pB v12,pB v14,pB v16,pS v18,pB v19] []) (C:=[(1001003,.call ⟨55,[.o (.c (.k (.int .i64 1)))],[],.o (.g [.h 2,.h 3]),[]⟩),
  (1001009,.op (.len [9] 3) [LF (.h 0)] [] (LF (.h 4))),
  (1001010,.bin .lss 3 (LF (.h 1)) (LF (.h 4)) (LF (.h 5))),
  (10005,.fb 5 false),
  (1001013,.op (.sc 9 false true false) [LF (.h 0),LF (.h 1)] [] (LF (.h 6))),
  (1001014,.call ⟨72,[.o (.c (.h 6))],[],.t [.g [.h 7,.h 8],.c (.h 9)],[]⟩),
  (1001030,.un .not (LF (.h 9)) (LF (.h 10))),
  (10010,.fb 10 false),
  (1001034,.bin .eql 9 (LF (.h 0)) (LF (.k (.string ⟨#[]⟩))) (LF (.h 11))),
  (10011,.fb 11 false),
  (1001038,.call ⟨29,[.o (.g [.h 7,.h 8,.h 2,.h 3])],[],.o (.c (.h 12)),[]⟩),
  (1001040,.bin .neq 9 (LF (.h 12)) (LF (.h 0)) (LF (.h 13))),
  (10013,.fb 13 false)]) (k:=⟨31,[.o (.c (.h 0))],[],.t [.g [.h 7,.h 8,.h 2,.h 3],.c (.k (.bool true))],[]⟩) ⟨[qI],[],0⟩ [] 0 (zm ⟨za rfl,za rfl,za rfl,ze,za rfl,za rfl,za rfl,za rfl,ze,za rfl,za rfl,za rfl,za rfl,za rfl,trivial⟩) ⟨zc (qy (1:Int) v1 e1 s2 s3) rfl rfl rfl rfl,
  e_op1 (zb rfl) (zb rfl) (fun W=>by rw [← e4];exact zbX (by kernel_rfl) W),
  e_bin (zb rfl) (zb rfl) (zb rfl) (r_cmp (congrArg some e5)),
  e_fb (show pV (.bool v5)=_ by rw [h6]),
  e_op2 (zb rfl) (zb rfl) (zb rfl) (fun W=>by rw [← e9];exact zb9 (by kernel_rfl) s8 s10 W),
  zc (qz v9 v11 v12 e11 e12 s13) rfl rfl rfl rfl,
  e_un (zb rfl) (zb rfl) (fun W=>by rw [← e14];exact r_not W),
  e_fb (show pV (.bool v14)=_ by rw [h15]),
  e_bin (zb rfl) zg (zb rfl) (fun W X Y=>by rw [← e16];exact r_seq W X Y),
  e_fb (show pV (.bool v16)=_ by rw [h17]),
  zc (zbD (v11,v1) v18 e18) rfl rfl rfl rfl,
  e_bin (zb rfl) (zb rfl) (zb rfl) (fun W X Y=>by rw [← e19];exact r_sne W X Y),
  e_fb (show pV (.bool v19)=_ by rw [h20]),
  trivial⟩ mixed trivial (fun R hR p hp s hs=>by
 have hl:qm (zat Tryz.prog 31)=[(2,lp Tryz.prog 31 0)]:=by kernel_rfl
 rw [hl] at hp
 simp only [List.mem_cons,List.not_mem_nil,or_false] at hp
 rcases hp with rfl
 ·have e:s=qI:=(Option.some.inj hs).symm
  subst e;exact L_rpar R hR) (by kernel_rfl)) rfl rfl rfl rfl
theorem qD:zk [49]=some 1:=by decide +kernel
theorem zad:okP []=false:=by decide +kernel
theorem zV {x:RR} {s:List UInt8} (h:textR x=s) (h2:s≠[]):rrX x.1 x.2=true:=by
 unfold textR at h
 split at h
 ·assumption
 ·exact absurd h.symm h2
theorem zfD {w0:World} (s:List UInt8) (r:RR) (o:Bool) (hr:parR s=r) (ho:okP s=o) (hl:s.length≤1000):Fun (KN w0) Tryz.prog 31 [.o (.c (pS s))] (.t [.g (cN r.1++cN r.2),.c (pB o)]):=by
 have hs:=zjk s
 obtain ⟨k,hO_rpar⟩:∃(k:Int),k=(qe s:Int):=⟨_,rfl⟩
 obtain ⟨v1,e1⟩:∃v,(nz (1:Int))=v:=⟨_,rfl⟩
 have s2:-9223372036854775808≤(1:Int):=by decide
 have s3:(1:Int)<9223372036854775808:=by decide
 obtain ⟨v4,e4⟩:∃v,(((s:List UInt8).length:Int))=v:=⟨_,rfl⟩
 obtain ⟨v5,e5⟩:∃v,(decide (k<v4))=v:=⟨_,rfl⟩
 cases h6:v5 with
 | true =>
  obtain ⟨v7,e7⟩:∃v,(IntKind.i64.wrap (k+(1:Int)))=v:=⟨_,rfl⟩
  obtain ⟨n8,s9⟩:∃(n8:Nat),v7=(n8:Int):=by (have d:=of_decide_eq_true (e5.trans h6);refine ⟨qe s+1,?_⟩;rw [← e7,wr64 (by omega)];omega)
  obtain ⟨v10,e10⟩:∃v,((s:List UInt8).drop n8)=v:=⟨_,rfl⟩
  have s11:n8≤(s:List UInt8).length:=by (have d:=of_decide_eq_true (e5.trans h6);rw [wr64 (by omega)] at e7;omega)
  obtain ⟨v12,e12⟩:∃v,(nz (vO (zk v10)))=v:=⟨_,rfl⟩
  obtain ⟨v13,e13⟩:∃v,(okO (zk v10))=v:=⟨_,rfl⟩
  have s14:(v10:List UInt8).length≤1000:=by (rw [← e10];simp only [List.length_drop,List.length_take];omega)
  obtain ⟨n15,s16⟩:∃(n15:Nat),k=(n15:Int):=by exact ⟨qe s,hO_rpar⟩
  obtain ⟨v17,e17⟩:∃v,((s:List UInt8).take n15)=v:=⟨_,rfl⟩
  have s18:n15≤(s:List UInt8).length:=by omega
  obtain ⟨v19,e19⟩:∃v,(nz (vO (zk v17)))=v:=⟨_,rfl⟩
  obtain ⟨v20,e20⟩:∃v,(okO (zk v17))=v:=⟨_,rfl⟩
  have s21:(v17:List UInt8).length≤1000:=by (rw [← e17];simp only [List.length_drop,List.length_take];omega)
  obtain ⟨v22,e22⟩:∃v,(!v13)=v:=⟨_,rfl⟩
  cases h23:v22 with
  | true =>
   refine Fun.imp (zuM s k v1 v4 v5 v7 n8 v10 v12 v13 n15 v17 v19 v20 v22 e1 e4 e5 e7 e10 e12 e13 e17 e19 e20 e22 s2 s3 h6 s9 s11 s14 s16 s18 s21 h23 (fun R hR=>zcx s  k rfl rfl R hR hO_rpar hl)) (fun _ _ _ h=>h) (fun v W D h=>?_)
   have r0:r=rq none:=by
    have d:=of_decide_eq_true (e5.trans h6)
    have hA:qb s=v17:=by rw [← e17];unfold qb;congr 1;omega
    rw [wr64 (by omega)] at e7
    have hB:qa s=v10:=by rw [← e10];unfold qa;rw [if_pos (by omega)];congr 1;omega
    have ht:=@zV (v19,v12) s
    have hnil:=zad
    clear e7 e10 e17 d s9 s11 s14 s16 s18 s21 e4 e5 h6 s2 s3 e1 hO_rpar hs hl
    first | rw [← hr] | rw [← ho]
    subst_vars
    simp_all [parR,okP,rawP]
   have r1:o=false:=by
    have d:=of_decide_eq_true (e5.trans h6)
    have hA:qb s=v17:=by rw [← e17];unfold qb;congr 1;omega
    rw [wr64 (by omega)] at e7
    have hB:qa s=v10:=by rw [← e10];unfold qa;rw [if_pos (by omega)];congr 1;omega
    have ht:=@zV (v19,v12) s
    have hnil:=zad
    clear e7 e10 e17 d s9 s11 s14 s16 s18 s21 e4 e5 h6 s2 s3 e1 hO_rpar hs hl
    first | rw [← hr] | rw [← ho]
    subst_vars
    simp_all [parR,okP,rawP]
   rw [r0,r1];exact zaN h
  | false =>
   obtain ⟨v24,e24⟩:∃v,(!v20)=v:=⟨_,rfl⟩
   cases h25:v24 with
   | true =>
    refine Fun.imp (zuN s k v1 v4 v5 v7 n8 v10 v12 v13 n15 v17 v19 v20 v22 v24 e1 e4 e5 e7 e10 e12 e13 e17 e19 e20 e22 e24 s2 s3 h6 s9 s11 s14 s16 s18 s21 h23 h25 (fun R hR=>zcx s  k rfl rfl R hR hO_rpar hl)) (fun _ _ _ h=>h) (fun v W D h=>?_)
    have r0:r=rq none:=by
     have d:=of_decide_eq_true (e5.trans h6)
     have hA:qb s=v17:=by rw [← e17];unfold qb;congr 1;omega
     rw [wr64 (by omega)] at e7
     have hB:qa s=v10:=by rw [← e10];unfold qa;rw [if_pos (by omega)];congr 1;omega
     have ht:=@zV (v19,v12) s
     have hnil:=zad
     clear e7 e10 e17 d s9 s11 s14 s16 s18 s21 e4 e5 h6 s2 s3 e1 hO_rpar hs hl
     first | rw [← hr] | rw [← ho]
     subst_vars
     simp_all [parR,okP,rawP]
    have r1:o=false:=by
     have d:=of_decide_eq_true (e5.trans h6)
     have hA:qb s=v17:=by rw [← e17];unfold qb;congr 1;omega
     rw [wr64 (by omega)] at e7
     have hB:qa s=v10:=by rw [← e10];unfold qa;rw [if_pos (by omega)];congr 1;omega
     have ht:=@zV (v19,v12) s
     have hnil:=zad
     clear e7 e10 e17 d s9 s11 s14 s16 s18 s21 e4 e5 h6 s2 s3 e1 hO_rpar hs hl
     first | rw [← hr] | rw [← ho]
     subst_vars
     simp_all [parR,okP,rawP]
    rw [r0,r1];exact zaN h
   | false =>
    obtain ⟨v26,e26⟩:∃v,(((s:List UInt8) == []))=v:=⟨_,rfl⟩
    cases h27:v26 with
    | true =>
     refine Fun.imp (zuO s k v1 v4 v5 v7 n8 v10 v12 v13 n15 v17 v19 v20 v22 v24 v26 e1 e4 e5 e7 e10 e12 e13 e17 e19 e20 e22 e24 e26 s2 s3 h6 s9 s11 s14 s16 s18 s21 h23 h25 h27 (fun R hR=>zcx s  k rfl rfl R hR hO_rpar hl)) (fun _ _ _ h=>h) (fun v W D h=>?_)
     have r0:r=rq none:=by
      have d:=of_decide_eq_true (e5.trans h6)
      have hA:qb s=v17:=by rw [← e17];unfold qb;congr 1;omega
      rw [wr64 (by omega)] at e7
      have hB:qa s=v10:=by rw [← e10];unfold qa;rw [if_pos (by omega)];congr 1;omega
      have ht:=@zV (v19,v12) s
      have hnil:=zad
      clear e7 e10 e17 d s9 s11 s14 s16 s18 s21 e4 e5 h6 s2 s3 e1 hO_rpar hs hl
      first | rw [← hr] | rw [← ho]
      subst_vars
      simp_all [parR,okP,rawP]
     have r1:o=false:=by
      have d:=of_decide_eq_true (e5.trans h6)
      have hA:qb s=v17:=by rw [← e17];unfold qb;congr 1;omega
      rw [wr64 (by omega)] at e7
      have hB:qa s=v10:=by rw [← e10];unfold qa;rw [if_pos (by omega)];congr 1;omega
      have ht:=@zV (v19,v12) s
      have hnil:=zad
      clear e7 e10 e17 d s9 s11 s14 s16 s18 s21 e4 e5 h6 s2 s3 e1 hO_rpar hs hl
      first | rw [← hr] | rw [← ho]
      subst_vars
      simp_all [parR,okP,rawP]
     rw [r0,r1];exact zaN h
    | false =>
     obtain ⟨v28,e28⟩:∃v,(textR (v19,v12))=v:=⟨_,rfl⟩
     obtain ⟨v29,e29⟩:∃v,(!((v28:List UInt8) == s))=v:=⟨_,rfl⟩
     cases h30:v29 with
     | true =>
      refine Fun.imp (zuP s k v1 v4 v5 v7 n8 v10 v12 v13 n15 v17 v19 v20 v22 v24 v26 v28 v29 e1 e4 e5 e7 e10 e12 e13 e17 e19 e20 e22 e24 e26 e28 e29 s2 s3 h6 s9 s11 s14 s16 s18 s21 h23 h25 h27 h30 (fun R hR=>zcx s  k rfl rfl R hR hO_rpar hl)) (fun _ _ _ h=>h) (fun v W D h=>?_)
      have r0:r=rq none:=by
       have d:=of_decide_eq_true (e5.trans h6)
       have hA:qb s=v17:=by rw [← e17];unfold qb;congr 1;omega
       rw [wr64 (by omega)] at e7
       have hB:qa s=v10:=by rw [← e10];unfold qa;rw [if_pos (by omega)];congr 1;omega
       have ht:=@zV (v19,v12) s
       have hnil:=zad
       clear e7 e10 e17 d s9 s11 s14 s16 s18 s21 e4 e5 h6 s2 s3 e1 hO_rpar hs hl
       first | rw [← hr] | rw [← ho]
       subst_vars
       simp_all [parR,okP,rawP]
      have r1:o=false:=by
       have d:=of_decide_eq_true (e5.trans h6)
       have hA:qb s=v17:=by rw [← e17];unfold qb;congr 1;omega
       rw [wr64 (by omega)] at e7
       have hB:qa s=v10:=by rw [← e10];unfold qa;rw [if_pos (by omega)];congr 1;omega
       have ht:=@zV (v19,v12) s
       have hnil:=zad
       clear e7 e10 e17 d s9 s11 s14 s16 s18 s21 e4 e5 h6 s2 s3 e1 hO_rpar hs hl
       first | rw [← hr] | rw [← ho]
       subst_vars
       simp_all [parR,okP,rawP]
      rw [r0,r1];exact zaN h
     | false =>
      refine Fun.imp (zuQ s k v1 v4 v5 v7 n8 v10 v12 v13 n15 v17 v19 v20 v22 v24 v26 v28 v29 e1 e4 e5 e7 e10 e12 e13 e17 e19 e20 e22 e24 e26 e28 e29 s2 s3 h6 s9 s11 s14 s16 s18 s21 h23 h25 h27 h30 (fun R hR=>zcx s  k rfl rfl R hR hO_rpar hl)) (fun _ _ _ h=>h) (fun v W D h=>?_)
      have r0:r=(v19,v12):=by
       have d:=of_decide_eq_true (e5.trans h6)
       have hA:qb s=v17:=by rw [← e17];unfold qb;congr 1;omega
       rw [wr64 (by omega)] at e7
       have hB:qa s=v10:=by rw [← e10];unfold qa;rw [if_pos (by omega)];congr 1;omega
       have ht:=@zV (v19,v12) s
       have hnil:=zad
       clear e7 e10 e17 d s9 s11 s14 s16 s18 s21 e4 e5 h6 s2 s3 e1 hO_rpar hs hl
       first | rw [← hr] | rw [← ho]
       subst_vars
       simp_all [parR,okP,rawP]
      have r1:o=true:=by
       have d:=of_decide_eq_true (e5.trans h6)
       have hA:qb s=v17:=by rw [← e17];unfold qb;congr 1;omega
       rw [wr64 (by omega)] at e7
       have hB:qa s=v10:=by rw [← e10];unfold qa;rw [if_pos (by omega)];congr 1;omega
       have ht:=@zV (v19,v12) s
       have hnil:=zad
       clear e7 e10 e17 d s9 s11 s14 s16 s18 s21 e4 e5 h6 s2 s3 e1 hO_rpar hs hl
       first | rw [← hr] | rw [← ho]
       subst_vars
       simp_all [parR,okP,rawP]
      rw [r0,r1];exact h
 | false =>
  obtain ⟨n7,s8⟩:∃(n7:Nat),k=(n7:Int):=by exact ⟨qe s,hO_rpar⟩
  obtain ⟨v9,e9⟩:∃v,((s:List UInt8).take n7)=v:=⟨_,rfl⟩
  have s10:n7≤(s:List UInt8).length:=by omega
  obtain ⟨v11,e11⟩:∃v,(nz (vO (zk v9)))=v:=⟨_,rfl⟩
  obtain ⟨v12,e12⟩:∃v,(okO (zk v9))=v:=⟨_,rfl⟩
  have s13:(v9:List UInt8).length≤1000:=by (rw [← e9];simp only [List.length_drop,List.length_take];omega)
  obtain ⟨v14,e14⟩:∃v,(!v12)=v:=⟨_,rfl⟩
  cases h15:v14 with
  | true =>
   refine Fun.imp (zuR s k v1 v4 v5 n7 v9 v11 v12 v14 e1 e4 e5 e9 e11 e12 e14 s2 s3 h6 s8 s10 s13 h15 (fun R hR=>zcx s  k rfl rfl R hR hO_rpar hl)) (fun _ _ _ h=>h) (fun v W D h=>?_)
   have r0:r=rq none:=by
    have d:=of_decide_eq_false (e5.trans h6)
    have hA:qb s=v9:=by rw [← e9];unfold qb;congr 1;omega
    have hB:qa s=[49]:=by unfold qa;rw [if_neg (by omega)]
    have ht:=@zV (v11,v1) s
    have hnil:=zad
    have h1:vO (zk [49])=1:=by rw [qD];rfl
    have h2:okO (zk [49])=true:=by rw [qD];rfl
    clear e9 d s8 s10 s13 e4 e5 h6 s2 s3 hO_rpar hs hl
    first | rw [← hr] | rw [← ho]
    subst_vars
    simp_all [parR,okP,rawP]
   have r1:o=false:=by
    have d:=of_decide_eq_false (e5.trans h6)
    have hA:qb s=v9:=by rw [← e9];unfold qb;congr 1;omega
    have hB:qa s=[49]:=by unfold qa;rw [if_neg (by omega)]
    have ht:=@zV (v11,v1) s
    have hnil:=zad
    have h1:vO (zk [49])=1:=by rw [qD];rfl
    have h2:okO (zk [49])=true:=by rw [qD];rfl
    clear e9 d s8 s10 s13 e4 e5 h6 s2 s3 hO_rpar hs hl
    first | rw [← hr] | rw [← ho]
    subst_vars
    simp_all [parR,okP,rawP]
   rw [r0,r1];exact zaN h
  | false =>
   obtain ⟨v16,e16⟩:∃v,(((s:List UInt8) == []))=v:=⟨_,rfl⟩
   cases h17:v16 with
   | true =>
    refine Fun.imp (zuS s k v1 v4 v5 n7 v9 v11 v12 v14 v16 e1 e4 e5 e9 e11 e12 e14 e16 s2 s3 h6 s8 s10 s13 h15 h17 (fun R hR=>zcx s  k rfl rfl R hR hO_rpar hl)) (fun _ _ _ h=>h) (fun v W D h=>?_)
    have r0:r=rq none:=by
     have d:=of_decide_eq_false (e5.trans h6)
     have hA:qb s=v9:=by rw [← e9];unfold qb;congr 1;omega
     have hB:qa s=[49]:=by unfold qa;rw [if_neg (by omega)]
     have ht:=@zV (v11,v1) s
     have hnil:=zad
     have h1:vO (zk [49])=1:=by rw [qD];rfl
     have h2:okO (zk [49])=true:=by rw [qD];rfl
     clear e9 d s8 s10 s13 e4 e5 h6 s2 s3 hO_rpar hs hl
     first | rw [← hr] | rw [← ho]
     subst_vars
     simp_all [parR,okP,rawP]
    have r1:o=false:=by
     have d:=of_decide_eq_false (e5.trans h6)
     have hA:qb s=v9:=by rw [← e9];unfold qb;congr 1;omega
     have hB:qa s=[49]:=by unfold qa;rw [if_neg (by omega)]
     have ht:=@zV (v11,v1) s
     have hnil:=zad
     have h1:vO (zk [49])=1:=by rw [qD];rfl
     have h2:okO (zk [49])=true:=by rw [qD];rfl
     clear e9 d s8 s10 s13 e4 e5 h6 s2 s3 hO_rpar hs hl
     first | rw [← hr] | rw [← ho]
     subst_vars
     simp_all [parR,okP,rawP]
    rw [r0,r1];exact zaN h
   | false =>
    obtain ⟨v18,e18⟩:∃v,(textR (v11,v1))=v:=⟨_,rfl⟩
    obtain ⟨v19,e19⟩:∃v,(!((v18:List UInt8) == s))=v:=⟨_,rfl⟩
    cases h20:v19 with
    | true =>
     refine Fun.imp (zuT s k v1 v4 v5 n7 v9 v11 v12 v14 v16 v18 v19 e1 e4 e5 e9 e11 e12 e14 e16 e18 e19 s2 s3 h6 s8 s10 s13 h15 h17 h20 (fun R hR=>zcx s  k rfl rfl R hR hO_rpar hl)) (fun _ _ _ h=>h) (fun v W D h=>?_)
     have r0:r=rq none:=by
      have d:=of_decide_eq_false (e5.trans h6)
      have hA:qb s=v9:=by rw [← e9];unfold qb;congr 1;omega
      have hB:qa s=[49]:=by unfold qa;rw [if_neg (by omega)]
      have ht:=@zV (v11,v1) s
      have hnil:=zad
      have h1:vO (zk [49])=1:=by rw [qD];rfl
      have h2:okO (zk [49])=true:=by rw [qD];rfl
      clear e9 d s8 s10 s13 e4 e5 h6 s2 s3 hO_rpar hs hl
      first | rw [← hr] | rw [← ho]
      subst_vars
      simp_all [parR,okP,rawP]
     have r1:o=false:=by
      have d:=of_decide_eq_false (e5.trans h6)
      have hA:qb s=v9:=by rw [← e9];unfold qb;congr 1;omega
      have hB:qa s=[49]:=by unfold qa;rw [if_neg (by omega)]
      have ht:=@zV (v11,v1) s
      have hnil:=zad
      have h1:vO (zk [49])=1:=by rw [qD];rfl
      have h2:okO (zk [49])=true:=by rw [qD];rfl
      clear e9 d s8 s10 s13 e4 e5 h6 s2 s3 hO_rpar hs hl
      first | rw [← hr] | rw [← ho]
      subst_vars
      simp_all [parR,okP,rawP]
     rw [r0,r1];exact zaN h
    | false =>
     refine Fun.imp (zuU s k v1 v4 v5 n7 v9 v11 v12 v14 v16 v18 v19 e1 e4 e5 e9 e11 e12 e14 e16 e18 e19 s2 s3 h6 s8 s10 s13 h15 h17 h20 (fun R hR=>zcx s  k rfl rfl R hR hO_rpar hl)) (fun _ _ _ h=>h) (fun v W D h=>?_)
     have r0:r=(v11,v1):=by
      have d:=of_decide_eq_false (e5.trans h6)
      have hA:qb s=v9:=by rw [← e9];unfold qb;congr 1;omega
      have hB:qa s=[49]:=by unfold qa;rw [if_neg (by omega)]
      have ht:=@zV (v11,v1) s
      have hnil:=zad
      have h1:vO (zk [49])=1:=by rw [qD];rfl
      have h2:okO (zk [49])=true:=by rw [qD];rfl
      clear e9 d s8 s10 s13 e4 e5 h6 s2 s3 hO_rpar hs hl
      first | rw [← hr] | rw [← ho]
      subst_vars
      simp_all [parR,okP,rawP]
     have r1:o=true:=by
      have d:=of_decide_eq_false (e5.trans h6)
      have hA:qb s=v9:=by rw [← e9];unfold qb;congr 1;omega
      have hB:qa s=[49]:=by unfold qa;rw [if_neg (by omega)]
      have ht:=@zV (v11,v1) s
      have hnil:=zad
      have h1:vO (zk [49])=1:=by rw [qD];rfl
      have h2:okO (zk [49])=true:=by rw [qD];rfl
      clear e9 d s8 s10 s13 e4 e5 h6 s2 s3 hO_rpar hs hl
      first | rw [← hr] | rw [← ho]
      subst_vars
      simp_all [parR,okP,rawP]
     rw [r0,r1];exact h
end Go.Proofs.YtccjiodohphgnaaGreatDoor
namespace Go.Proofs.YtccjiodohphgnaaGreatDoor
open Go.RowKit Go.Shelf
theorem zmU {w0:World} (hM:∀W,Below w0.heap.size w0 W→MaxT W) (hTS:∀W,Below w0.heap.size w0 W→PowT w0.heap.size W∧SynT w0.heap.size W) (v1:Raw) (v4:Raw) (v7:RR) (v8:Bool) (v9:Raw) (v12:Raw) (v15:RR) (v16:Bool) (v17:Raw) (v20:Raw) (v23:RR) (v24:Bool) (v25:Bool) (v28:Bool) (v30:Bool) (v33:Bool) (v35:Bool) (v36:Bool) (v38:RR) (v41:Bool) (v44:Bool) (v46:RR) (v49:Bool) (v50:Bool) (v52:RR) (v55:RR) (v58:RR) (v59:Bool) (v60:RR) (v63:RR) (v66:RR) (v67:Bool) (v68:RR) (v71:RR) (v74:RR) (v75:Bool) (v76:Bool) (v79:Bool) (v81:Bool) (v84:Bool) (v86:Bool) (v89:Bool) (v91:RR) (v94:RR) (v97:RR) (v98:Bool) (v99:RR) (v102:RR) (v105:RR) (v106:Bool) (v107:Bool) (v110:Bool) (v112:Bool) (v113:Bool) (v115:RR) (v118:RR) (v121:Int) (v122:Bool) (v124:RR) (v127:RR) (v130:Int) (v131:Bool) (v133:RR) (v136:Int) (v137:Bool) (v139:RR) (v142:Int) (v143:Bool) (v145:RR) (v148:Bool) (v149:Bool) (v151:RR) (v154:Bool) (v155:Bool) (v157:RR) (v160:Bool) (v161:Bool) (v163:RR) (v166:Bool) (v167:Bool) (v169:Bool) (v171:RR) (v172:Bool) (v174:RR) (v175:Bool) (v177:RR) (v178:Bool) (v180:RR) (v183:(List UInt8)) (v184:Bool) (v186:RR) (v189:(List UInt8)) (v190:Bool) (v192:Bool) (v194:Bool) (v196:Bool) (e1:(nz (6:Int))=v1) (e4:(nz (-4:Int))=v4) (e7:(rq (ofX v1 v4))=v7) (e8:((ofX v1 v4).isSome)=v8) (e9:(nz (0:Int))=v9) (e12:(nz (-7:Int))=v12) (e15:(rq (ofX v9 v12))=v15) (e16:((ofX v9 v12).isSome)=v16) (e17:(nz (1:Int))=v17) (e20:(nz (0:Int))=v20) (e23:(rq (ofX v17 v20))=v23) (e24:((ofX v17 v20).isSome)=v24) (e25:((v8 && decide (v7=rq (ofX (nz (-3:Int)) (nz (2:Int))))))=v25) (e28:(!v25)=v28) (e30:((v16 && decide (v15=rq (ofX (nz (0:Int)) (nz (1:Int))))))=v30) (e33:(!v30)=v33) (e35:((!v24 && decide (v23=rq none)))=v35) (e36:(!v35)=v36) (e38:(rq (fracR ((2:Int),(4:Int)).1 ((2:Int),(4:Int)).2))=v38) (e41:((true && decide (v38=rq (ofX (nz (1:Int)) (nz (2:Int))))))=v41) (e44:(!v41)=v44) (e46:(rq (fracR ((1:Int),(-2:Int)).1 ((1:Int),(-2:Int)).2))=v46) (e49:(decide (v46=(rq none)))=v49) (e50:(!v49)=v50) (e52:(rq (ofX (nz (1:Int)) (nz (6:Int))))=v52) (e55:(rq (ofX (nz (1:Int)) (nz (10:Int))))=v55) (e58:(rq (addR (qq v52) (qq v55)))=v58) (e59:((addR (qq v52) (qq v55)).isSome)=v59) (e60:(rq (ofX (nz (1:Int)) (nz (2:Int))))=v60) (e63:(rq (ofX (nz (2:Int)) (nz (3:Int))))=v63) (e66:(rq (subR (qq v60) (qq v63)))=v66) (e67:((subR (qq v60) (qq v63)).isSome)=v67) (e68:(rq (ofX (nz (2:Int)) (nz (3:Int))))=v68) (e71:(rq (ofX (nz (3:Int)) (nz (4:Int))))=v71) (e74:(rq (mulR (qq v68) (qq v71)))=v74) (e75:((mulR (qq v68) (qq v71)).isSome)=v75) (e76:((v59 && decide (v58=rq (ofX (nz (4:Int)) (nz (15:Int))))))=v76) (e79:(!v76)=v79) (e81:((v67 && decide (v66=rq (ofX (nz (-1:Int)) (nz (6:Int))))))=v81) (e84:(!v81)=v84) (e86:((v75 && decide (v74=rq (ofX (nz (1:Int)) (nz (2:Int))))))=v86) (e89:(!v86)=v89) (e91:(rq (ofX (nz (1:Int)) (nz (2:Int))))=v91) (e94:(rq (ofX (nz (-3:Int)) (nz (4:Int))))=v94) (e97:(rq (divR (qq v91) (qq v94)))=v97) (e98:((divR (qq v91) (qq v94)).isSome)=v98) (e99:(rq (ofX (nz (1:Int)) (nz (2:Int))))=v99) (e102:(rq (ofX (nz (0:Int)) (nz (1:Int))))=v102) (e105:(rq (divR (qq v99) (qq v102)))=v105) (e106:((divR (qq v99) (qq v102)).isSome)=v106) (e107:((v98 && decide (v97=rq (ofX (nz (-2:Int)) (nz (3:Int))))))=v107) (e110:(!v107)=v110) (e112:((!v106 && decide (v105=rq none)))=v112) (e113:(!v112)=v113) (e115:(rq (ofX (nz (1:Int)) (nz (3:Int))))=v115) (e118:(rq (ofX (nz (333:Int)) (nz (1000:Int))))=v118) (e121:(cmpO (qq v115) (qq v118))=v121) (e122:((v121 != (1:Int)))=v122) (e124:(rq (ofX (nz (-1:Int)) (nz (2:Int))))=v124) (e127:(rq (ofX (nz (-1:Int)) (nz (3:Int))))=v127) (e130:(cmpO (qq v124) (qq v127))=v130) (e131:((v130 != (-1:Int)))=v131) (e133:(rq (ofX (nz (1:Int)) (nz (2:Int))))=v133) (e136:(cmpO (qq v133) (qq (rq none)))=v136) (e137:((v136 != (0:Int)))=v137) (e139:(rq (ofX (nz (-1:Int)) (nz (2:Int))))=v139) (e142:(sgX v139.1 v139.2)=v142) (e143:((v142 != (-1:Int)))=v143) (e145:(rq (ofX (nz (7:Int)) (nz (2:Int))))=v145) (e148:(zbL v145 (3:Int) (4:Int))=v148) (e149:(!v148)=v149) (e151:(rq (ofX (nz (-7:Int)) (nz (2:Int))))=v151) (e154:(zbL v151 (-4:Int) (-3:Int))=v154) (e155:(!v154)=v155) (e157:(rq (ofX (nz (4:Int)) (nz (1:Int))))=v157) (e160:(zbL v157 (4:Int) (4:Int))=v160) (e161:(!v160)=v161) (e163:(rq (ofX (nz (1:Int)) (nz (2:Int))))=v163) (e166:(rrX v163.1 v163.2)=v166) (e167:(!v166)=v167) (e169:(rrX (rq none).1 (rq none).2)=v169) (e171:(parR [50,47,52])=v171) (e172:(okP [50,47,52])=v172) (e174:(parR [51,47,49])=v174) (e175:(okP [51,47,49])=v175) (e177:(parR [45,51,47,50])=v177) (e178:(okP [45,51,47,50])=v178) (e180:(rq (ofX (nz (-3:Int)) (nz (2:Int))))=v180) (e183:(textR v180)=v183) (e184:(((v183:List UInt8) == [45,51,47,50]))=v184) (e186:(rq (ofX (nz (5:Int)) (nz (1:Int))))=v186) (e189:(textR v186)=v189) (e190:(((v189:List UInt8) == [53]))=v190) (e192:(!v172)=v192) (e194:(!v175)=v194) (e196:((v178 && decide (v177=rq (ofX (nz (-3:Int)) (nz (2:Int))))))=v196) (s2:-9223372036854775808≤(6:Int)) (s3:(6:Int)<9223372036854775808) (s5:-9223372036854775808≤(-4:Int)) (s6:(-4:Int)<9223372036854775808) (s10:-9223372036854775808≤(0:Int)) (s11:(0:Int)<9223372036854775808) (s13:-9223372036854775808≤(-7:Int)) (s14:(-7:Int)<9223372036854775808) (s18:-9223372036854775808≤(1:Int)) (s19:(1:Int)<9223372036854775808) (s21:-9223372036854775808≤(0:Int)) (s22:(0:Int)<9223372036854775808) (s26:InR (-3:Int)) (s27:InR (2:Int)) (h29:v28=false) (s31:InR (0:Int)) (s32:InR (1:Int)) (h34:v33=false) (h37:v36=false) (s39:InR ((2:Int),(4:Int)).1) (s40:InR ((2:Int),(4:Int)).2) (s42:InR (1:Int)) (s43:InR (2:Int)) (h45:v44=false) (s47:InR ((1:Int),(-2:Int)).1) (s48:InR ((1:Int),(-2:Int)).2) (h51:v50=false) (s53:InR (1:Int)) (s54:InR (6:Int)) (s56:InR (1:Int)) (s57:InR (10:Int)) (s61:InR (1:Int)) (s62:InR (2:Int)) (s64:InR (2:Int)) (s65:InR (3:Int)) (s69:InR (2:Int)) (s70:InR (3:Int)) (s72:InR (3:Int)) (s73:InR (4:Int)) (s77:InR (4:Int)) (s78:InR (15:Int)) (h80:v79=false) (s82:InR (-1:Int)) (s83:InR (6:Int)) (h85:v84=false) (s87:InR (1:Int)) (s88:InR (2:Int)) (h90:v89=false) (s92:InR (1:Int)) (s93:InR (2:Int)) (s95:InR (-3:Int)) (s96:InR (4:Int)) (s100:InR (1:Int)) (s101:InR (2:Int)) (s103:InR (0:Int)) (s104:InR (1:Int)) (s108:InR (-2:Int)) (s109:InR (3:Int)) (h111:v110=false) (h114:v113=false) (s116:InR (1:Int)) (s117:InR (3:Int)) (s119:InR (333:Int)) (s120:InR (1000:Int)) (h123:v122=false) (s125:InR (-1:Int)) (s126:InR (2:Int)) (s128:InR (-1:Int)) (s129:InR (3:Int)) (h132:v131=false) (s134:InR (1:Int)) (s135:InR (2:Int)) (h138:v137=false) (s140:InR (-1:Int)) (s141:InR (2:Int)) (h144:v143=false) (s146:InR (7:Int)) (s147:InR (2:Int)) (h150:v149=false) (s152:InR (-7:Int)) (s153:InR (2:Int)) (h156:v155=false) (s158:InR (4:Int)) (s159:InR (1:Int)) (h162:v161=false) (s164:InR (1:Int)) (s165:InR (2:Int)) (h168:v167=false) (h170:v169=false) (s173:([50,47,52]:List UInt8).length<4294967281) (s176:([51,47,49]:List UInt8).length<4294967281) (s179:([45,51,47,50]:List UInt8).length<4294967281) (s181:InR (-3:Int)) (s182:InR (2:Int)) (h185:v184=true) (s187:InR (5:Int)) (s188:InR (1:Int)) (h191:v190=true) (h193:v192=true) (h195:v194=true) (s197:InR (-3:Int)) (s198:InR (2:Int)):Fun (KN w0) Tryz.prog 10 [] (.o (.c (pB v196))):=
 zi (zl (F:=FL [pB v1.1,pD v1.2,pB v4.1,pD v4.2,pB v7.1.1,pD v7.1.2,pB v7.2.1,pD v7.2.2,pB v8,pB v9.1,pD v9.2,pB v12.1,pD v12.2,pB v15.1.1,pD v15.1.2,pB v15.2.1,pD v15.2.2,pB v16,pB v17.1,pD v17.2,pB v20.1,pD v20.2,pB v23.1.1,pD v23.1.2,pB v23.2.1,pD v23.2.2,pB v24,pB v25,pB v28,pB v30,pB v33,pB v35,pB v36,pB v38.1.1,pD v38.1.2,pB v38.2.1,pD v38.2.2,pB v41,pB v44,pB v46.1.1,pD v46.1.2,pB v46.2.1,pD v46.2.2,pB v49,pB v50,pB v52.1.1,pD v52.1.2,pB v52.2.1,pD v52.2.2,pB v55.1.1,pD v55.1.2,pB v55.2.1,pD v55.2.2,pB v58.1.1,pD v58.1.2,pB v58.2.1,pD v58.2.2,pB v59,pB v60.1.1,pD v60.1.2,pB v60.2.1,pD v60.2.2,pB v63.1.1,pD v63.1.2,pB v63.2.1,pD v63.2.2,pB v66.1.1,pD v66.1.2,pB v66.2.1,pD v66.2.2,pB v67,pB v68.1.1,pD v68.1.2,pB v68.2.1,pD v68.2.2,pB v71.1.1,pD v71.1.2,pB v71.2.1,pD v71.2.2,pB v74.1.1,pD v74.1.2,pB v74.2.1,pD v74.2.2,pB v75,pB v76,pB v79,pB v81,pB v84,pB v86,pB v89,pB v91.1.1,pD v91.1.2,pB v91.2.1,pD v91.2.2,pB v94.1.1,pD v94.1.2,pB v94.2.1,pD v94.2.2,pB v97.1.1,pD v97.1.2,pB v97.2.1,pD v97.2.2,pB v98,pB v99.1.1,pD v99.1.2,pB v99.2.1,pD v99.2.2,pB v102.1.1,pD v102.1.2,pB v102.2.1,pD v102.2.2,pB v105.1.1,pD v105.1.2,pB v105.2.1,pD v105.2.2,pB v106,pB v107,pB v110,pB v112,pB v113,pB v115.1.1,pD v115.1.2,pB v115.2.1,pD v115.2.2,pB v118.1.1,pD v118.1.2,pB v118.2.1,pD v118.2.2,pI v121,pB v122,pB v124.1.1,pD v124.1.2,pB v124.2.1,pD v124.2.2,pB v127.1.1,pD v127.1.2,pB v127.2.1,pD v127.2.2,pI v130,pB v131,pB v133.1.1,pD v133.1.2,pB v133.2.1,pD v133.2.2,pI v136,pB v137,pB v139.1.1,pD v139.1.2,pB v139.2.1,pD v139.2.2,pI v142,pB v143,pB v145.1.1,pD v145.1.2,pB v145.2.1,pD v145.2.2,pB v148,pB v149,pB v151.1.1,pD v151.1.2,pB v151.2.1,pD v151.2.2,pB v154,pB v155,pB v157.1.1,pD v157.1.2,pB v157.2.1,pD v157.2.2,pB v160,pB v161,pB v163.1.1,pD v163.1.2,pB v163.2.1,pD v163.2.2,pB v166,pB v167,pB v169,pB v171.1.1,pD v171.1.2,pB v171.2.1,pD v171.2.2,pB v172,pB v174.1.1,pD v174.1.2,pB v174.2.1,pD v174.2.2,pB v175,pB v177.1.1,pD v177.1.2,pB v177.2.1,pD v177.2.2,pB v178,pB v180.1.1,pD v180.1.2,pB v180.2.1,pD v180.2.2,pS v183,pB v184,pB v186.1.1,pD v186.1.2,pB v186.2.1,pD v186.2.2,pS v189,pB v190,pB v192,pB v194,pB v196] []) (C:=[(1000001,.call ⟨36,[.o (.c (.k (.int .i64 6)))],[],.o (.g [.h 0,.h 1]),[]⟩),
  (1000002,.call ⟨36,[.o (.c (.k (.int .i64 (-4))))],[],.o (.g [.h 2,.h 3]),[]⟩),
  (1000003,.call ⟨46,[.o (.g [.h 0,.h 1]),.o (.g [.h 2,.h 3])],[],.t [.g [.h 4,.h 5,.h 6,.h 7],.c (.h 8)],[]⟩),
  (1000010,.call ⟨36,[.o (.c (.k (.int .i64 0)))],[],.o (.g [.h 9,.h 10]),[]⟩),
  (1000011,.call ⟨36,[.o (.c (.k (.int .i64 (-7))))],[],.o (.g [.h 11,.h 12]),[]⟩),
  (1000012,.call ⟨46,[.o (.g [.h 9,.h 10]),.o (.g [.h 11,.h 12])],[],.t [.g [.h 13,.h 14,.h 15,.h 16],.c (.h 17)],[]⟩),
  (1000019,.call ⟨36,[.o (.c (.k (.int .i64 1)))],[],.o (.g [.h 18,.h 19]),[]⟩),
  (1000020,.call ⟨36,[.o (.c (.k (.int .i64 0)))],[],.o (.g [.h 20,.h 21]),[]⟩),
  (1000021,.call ⟨46,[.o (.g [.h 18,.h 19]),.o (.g [.h 20,.h 21])],[],.t [.g [.h 22,.h 23,.h 24,.h 25],.c (.h 26)],[]⟩),
  (1000030,.call ⟨50,[.o (.g [.h 4,.h 5,.h 6,.h 7]),.o (.c (.h 8)),.o (.c (.k (.int .i64 (-3)))),.o (.c (.k (.int .i64 2)))],[],.o (.c (.h 27)),[]⟩),
  (1000031,.un .not (LF (.h 27)) (LF (.h 28))),
  (10028,.fb 28 false),
  (1000035,.call ⟨50,[.o (.g [.h 13,.h 14,.h 15,.h 16]),.o (.c (.h 17)),.o (.c (.k (.int .i64 0))),.o (.c (.k (.int .i64 1)))],[],.o (.c (.h 29)),[]⟩),
  (1000036,.un .not (LF (.h 29)) (LF (.h 30))),
  (10030,.fb 30 false),
  (1000041,.call ⟨35,[.o (.g [.h 22,.h 23,.h 24,.h 25]),.o (.c (.h 26))],[],.o (.c (.h 31)),[]⟩),
  (1000042,.un .not (LF (.h 31)) (LF (.h 32))),
  (10032,.fb 32 false),
  (1000046,.call ⟨48,[.o (.g [.k (.int .i64 2),.k (.int .i64 4)])],[],.o (.g [.h 33,.h 34,.h 35,.h 36]),[]⟩),
  (1000047,.call ⟨50,[.o (.g [.h 33,.h 34,.h 35,.h 36]),.o (.c (.k (.bool true))),.o (.c (.k (.int .i64 1))),.o (.c (.k (.int .i64 2)))],[],.o (.c (.h 37)),[]⟩),
  (1000048,.un .not (LF (.h 37)) (LF (.h 38))),
  (10038,.fb 38 false),
  (1000052,.call ⟨48,[.o (.g [.k (.int .i64 1),.k (.int .i64 (-2))])],[],.o (.g [.h 39,.h 40,.h 41,.h 42]),[]⟩),
  (1000054,.call ⟨17,[.o (.g [.h 39,.h 40,.h 41,.h 42]),.o (.g [.k (.bool false),.k (.slice none 0 0),.k (.bool false),.k (.slice none 0 0)])],[],.o (.c (.h 43)),[]⟩),
  (1000055,.un .not (LF (.h 43)) (LF (.h 44))),
  (10044,.fb 44 false),
  (1000057,.call ⟨51,[.o (.c (.k (.int .i64 1))),.o (.c (.k (.int .i64 6)))],[],.o (.g [.h 45,.h 46,.h 47,.h 48]),[]⟩),
  (1000058,.call ⟨51,[.o (.c (.k (.int .i64 1))),.o (.c (.k (.int .i64 10)))],[],.o (.g [.h 49,.h 50,.h 51,.h 52]),[]⟩),
  (1000059,.call ⟨13,[.o (.g [.h 45,.h 46,.h 47,.h 48]),.o (.g [.h 49,.h 50,.h 51,.h 52])],[],.t [.g [.h 53,.h 54,.h 55,.h 56],.c (.h 57)],[]⟩),
  (1000065,.call ⟨51,[.o (.c (.k (.int .i64 1))),.o (.c (.k (.int .i64 2)))],[],.o (.g [.h 58,.h 59,.h 60,.h 61]),[]⟩),
  (1000066,.call ⟨51,[.o (.c (.k (.int .i64 2))),.o (.c (.k (.int .i64 3)))],[],.o (.g [.h 62,.h 63,.h 64,.h 65]),[]⟩),
  (1000067,.call ⟨15,[.o (.g [.h 58,.h 59,.h 60,.h 61]),.o (.g [.h 62,.h 63,.h 64,.h 65])],[],.t [.g [.h 66,.h 67,.h 68,.h 69],.c (.h 70)],[]⟩),
  (1000073,.call ⟨51,[.o (.c (.k (.int .i64 2))),.o (.c (.k (.int .i64 3)))],[],.o (.g [.h 71,.h 72,.h 73,.h 74]),[]⟩),
  (1000074,.call ⟨51,[.o (.c (.k (.int .i64 3))),.o (.c (.k (.int .i64 4)))],[],.o (.g [.h 75,.h 76,.h 77,.h 78]),[]⟩),
  (1000075,.call ⟨18,[.o (.g [.h 71,.h 72,.h 73,.h 74]),.o (.g [.h 75,.h 76,.h 77,.h 78])],[],.t [.g [.h 79,.h 80,.h 81,.h 82],.c (.h 83)],[]⟩),
  (1000083,.call ⟨50,[.o (.g [.h 53,.h 54,.h 55,.h 56]),.o (.c (.h 57)),.o (.c (.k (.int .i64 4))),.o (.c (.k (.int .i64 15)))],[],.o (.c (.h 84)),[]⟩),
  (1000084,.un .not (LF (.h 84)) (LF (.h 85))),
  (10085,.fb 85 false),
  (1000088,.call ⟨50,[.o (.g [.h 66,.h 67,.h 68,.h 69]),.o (.c (.h 70)),.o (.c (.k (.int .i64 (-1)))),.o (.c (.k (.int .i64 6)))],[],.o (.c (.h 86)),[]⟩),
  (1000089,.un .not (LF (.h 86)) (LF (.h 87))),
  (10087,.fb 87 false),
  (1000094,.call ⟨50,[.o (.g [.h 79,.h 80,.h 81,.h 82]),.o (.c (.h 83)),.o (.c (.k (.int .i64 1))),.o (.c (.k (.int .i64 2)))],[],.o (.c (.h 88)),[]⟩),
  (1000095,.un .not (LF (.h 88)) (LF (.h 89))),
  (10089,.fb 89 false),
  (1000097,.call ⟨51,[.o (.c (.k (.int .i64 1))),.o (.c (.k (.int .i64 2)))],[],.o (.g [.h 90,.h 91,.h 92,.h 93]),[]⟩),
  (1000098,.call ⟨51,[.o (.c (.k (.int .i64 (-3)))),.o (.c (.k (.int .i64 4)))],[],.o (.g [.h 94,.h 95,.h 96,.h 97]),[]⟩),
  (1000099,.call ⟨20,[.o (.g [.h 90,.h 91,.h 92,.h 93]),.o (.g [.h 94,.h 95,.h 96,.h 97])],[],.t [.g [.h 98,.h 99,.h 100,.h 101],.c (.h 102)],[]⟩),
  (1000105,.call ⟨51,[.o (.c (.k (.int .i64 1))),.o (.c (.k (.int .i64 2)))],[],.o (.g [.h 103,.h 104,.h 105,.h 106]),[]⟩),
  (1000106,.call ⟨51,[.o (.c (.k (.int .i64 0))),.o (.c (.k (.int .i64 1)))],[],.o (.g [.h 107,.h 108,.h 109,.h 110]),[]⟩),
  (1000107,.call ⟨20,[.o (.g [.h 103,.h 104,.h 105,.h 106]),.o (.g [.h 107,.h 108,.h 109,.h 110])],[],.t [.g [.h 111,.h 112,.h 113,.h 114],.c (.h 115)],[]⟩),
  (1000115,.call ⟨50,[.o (.g [.h 98,.h 99,.h 100,.h 101]),.o (.c (.h 102)),.o (.c (.k (.int .i64 (-2)))),.o (.c (.k (.int .i64 3)))],[],.o (.c (.h 116)),[]⟩),
  (1000116,.un .not (LF (.h 116)) (LF (.h 117))),
  (10117,.fb 117 false),
  (1000120,.call ⟨35,[.o (.g [.h 111,.h 112,.h 113,.h 114]),.o (.c (.h 115))],[],.o (.c (.h 118)),[]⟩),
  (1000121,.un .not (LF (.h 118)) (LF (.h 119))),
  (10119,.fb 119 false),
  (1000124,.call ⟨51,[.o (.c (.k (.int .i64 1))),.o (.c (.k (.int .i64 3)))],[],.o (.g [.h 120,.h 121,.h 122,.h 123]),[]⟩),
  (1000125,.call ⟨51,[.o (.c (.k (.int .i64 333))),.o (.c (.k (.int .i64 1000)))],[],.o (.g [.h 124,.h 125,.h 126,.h 127]),[]⟩),
  (1000126,.call ⟨22,[.o (.g [.h 120,.h 121,.h 122,.h 123]),.o (.g [.h 124,.h 125,.h 126,.h 127])],[],.o (.c (.h 128)),[]⟩),
  (1000127,.bin .neq 3 (LF (.h 128)) (LF (.k (.int .i64 1))) (LF (.h 129))),
  (10129,.fb 129 false),
  (1000130,.call ⟨51,[.o (.c (.k (.int .i64 (-1)))),.o (.c (.k (.int .i64 2)))],[],.o (.g [.h 130,.h 131,.h 132,.h 133]),[]⟩),
  (1000131,.call ⟨51,[.o (.c (.k (.int .i64 (-1)))),.o (.c (.k (.int .i64 3)))],[],.o (.g [.h 134,.h 135,.h 136,.h 137]),[]⟩),
  (1000132,.call ⟨22,[.o (.g [.h 130,.h 131,.h 132,.h 133]),.o (.g [.h 134,.h 135,.h 136,.h 137])],[],.o (.c (.h 138)),[]⟩),
  (1000133,.bin .neq 3 (LF (.h 138)) (LF (.k (.int .i64 (-1)))) (LF (.h 139))),
  (10139,.fb 139 false),
  (1000136,.call ⟨51,[.o (.c (.k (.int .i64 1))),.o (.c (.k (.int .i64 2)))],[],.o (.g [.h 140,.h 141,.h 142,.h 143]),[]⟩),
  (1000138,.call ⟨22,[.o (.g [.h 140,.h 141,.h 142,.h 143]),.o (.g [.k (.bool false),.k (.slice none 0 0),.k (.bool false),.k (.slice none 0 0)])],[],.o (.c (.h 144)),[]⟩),
  (1000139,.bin .neq 3 (LF (.h 144)) (LF (.k (.int .i64 0))) (LF (.h 145))),
  (10145,.fb 145 false),
  (1000142,.call ⟨51,[.o (.c (.k (.int .i64 (-1)))),.o (.c (.k (.int .i64 2)))],[],.o (.g [.h 146,.h 147,.h 148,.h 149]),[]⟩),
  (1000143,.call ⟨26,[.o (.g [.h 146,.h 147,.h 148,.h 149])],[],.o (.c (.h 150)),[]⟩),
  (1000144,.bin .neq 3 (LF (.h 150)) (LF (.k (.int .i64 (-1)))) (LF (.h 151))),
  (10151,.fb 151 false),
  (1000146,.call ⟨51,[.o (.c (.k (.int .i64 7))),.o (.c (.k (.int .i64 2)))],[],.o (.g [.h 152,.h 153,.h 154,.h 155]),[]⟩),
  (1000147,.call ⟨52,[.o (.g [.h 152,.h 153,.h 154,.h 155]),.o (.c (.k (.int .i64 3))),.o (.c (.k (.int .i64 4)))],[],.o (.c (.h 156)),[]⟩),
  (1000148,.un .not (LF (.h 156)) (LF (.h 157))),
  (10157,.fb 157 false),
  (1000150,.call ⟨51,[.o (.c (.k (.int .i64 (-7)))),.o (.c (.k (.int .i64 2)))],[],.o (.g [.h 158,.h 159,.h 160,.h 161]),[]⟩),
  (1000151,.call ⟨52,[.o (.g [.h 158,.h 159,.h 160,.h 161]),.o (.c (.k (.int .i64 (-4)))),.o (.c (.k (.int .i64 (-3))))],[],.o (.c (.h 162)),[]⟩),
  (1000152,.un .not (LF (.h 162)) (LF (.h 163))),
  (10163,.fb 163 false),
  (1000155,.call ⟨51,[.o (.c (.k (.int .i64 4))),.o (.c (.k (.int .i64 1)))],[],.o (.g [.h 164,.h 165,.h 166,.h 167]),[]⟩),
  (1000156,.call ⟨52,[.o (.g [.h 164,.h 165,.h 166,.h 167]),.o (.c (.k (.int .i64 4))),.o (.c (.k (.int .i64 4)))],[],.o (.c (.h 168)),[]⟩),
  (1000157,.un .not (LF (.h 168)) (LF (.h 169))),
  (10169,.fb 169 false),
  (1000160,.call ⟨51,[.o (.c (.k (.int .i64 1))),.o (.c (.k (.int .i64 2)))],[],.o (.g [.h 170,.h 171,.h 172,.h 173]),[]⟩),
  (1000161,.call ⟨43,[.o (.g [.h 170,.h 171,.h 172,.h 173])],[],.o (.c (.h 174)),[]⟩),
  (1000162,.un .not (LF (.h 174)) (LF (.h 175))),
  (10175,.fb 175 false),
  (1000166,.call ⟨43,[.o (.g [.k (.bool false),.k (.slice none 0 0),.k (.bool false),.k (.slice none 0 0)])],[],.o (.c (.h 176)),[]⟩),
  (10176,.fb 176 false),
  (1000168,.call ⟨28,[.o (.c (.k (.string ⟨#[50,47,52]⟩)))],[],.t [.g [.h 177,.h 178,.h 179,.h 180],.c (.h 181)],[]⟩),
  (1000175,.call ⟨28,[.o (.c (.k (.string ⟨#[51,47,49]⟩)))],[],.t [.g [.h 182,.h 183,.h 184,.h 185],.c (.h 186)],[]⟩),
  (1000182,.call ⟨28,[.o (.c (.k (.string ⟨#[45,51,47,50]⟩)))],[],.t [.g [.h 187,.h 188,.h 189,.h 190],.c (.h 191)],[]⟩),
  (1000189,.call ⟨51,[.o (.c (.k (.int .i64 (-3)))),.o (.c (.k (.int .i64 2)))],[],.o (.g [.h 192,.h 193,.h 194,.h 195]),[]⟩),
  (1000190,.call ⟨27,[.o (.g [.h 192,.h 193,.h 194,.h 195])],[],.o (.c (.h 196)),[]⟩),
  (1000191,.bin .eql 9 (LF (.h 196)) (LF (.k (.string ⟨#[45,51,47,50]⟩))) (LF (.h 197))),
  (10197,.fb 197 true),
  (1000193,.call ⟨51,[.o (.c (.k (.int .i64 5))),.o (.c (.k (.int .i64 1)))],[],.o (.g [.h 198,.h 199,.h 200,.h 201]),[]⟩),
  (1000194,.call ⟨27,[.o (.g [.h 198,.h 199,.h 200,.h 201])],[],.o (.c (.h 202)),[]⟩),
  (1000195,.bin .eql 9 (LF (.h 202)) (LF (.k (.string ⟨#[53]⟩))) (LF (.h 203))),
  (10203,.fb 203 true),
  (1000199,.un .not (LF (.h 181)) (LF (.h 204))),
  (10204,.fb 204 true),
  (1000203,.un .not (LF (.h 186)) (LF (.h 205))),
  (10205,.fb 205 true),
  (1000208,.call ⟨50,[.o (.g [.h 187,.h 188,.h 189,.h 190]),.o (.c (.h 191)),.o (.c (.k (.int .i64 (-3)))),.o (.c (.k (.int .i64 2)))],[],.o (.c (.h 206)),[]⟩)]) (k:=⟨10,[],[],.o (.c (.h 206)),[]⟩) 0 (zm ⟨za rfl,ze,za rfl,ze,za rfl,ze,za rfl,ze,za rfl,za rfl,ze,za rfl,ze,za rfl,ze,za rfl,ze,za rfl,za rfl,ze,za rfl,ze,za rfl,ze,za rfl,ze,za rfl,za rfl,za rfl,za rfl,za rfl,za rfl,za rfl,za rfl,ze,za rfl,ze,za rfl,za rfl,za rfl,ze,za rfl,ze,za rfl,za rfl,za rfl,ze,za rfl,ze,za rfl,ze,za rfl,ze,za rfl,ze,za rfl,ze,za rfl,za rfl,ze,za rfl,ze,za rfl,ze,za rfl,ze,za rfl,ze,za rfl,ze,za rfl,za rfl,ze,za rfl,ze,za rfl,ze,za rfl,ze,za rfl,ze,za rfl,ze,za rfl,za rfl,za rfl,za rfl,za rfl,za rfl,za rfl,za rfl,ze,za rfl,ze,za rfl,ze,za rfl,ze,za rfl,ze,za rfl,ze,za rfl,za rfl,ze,za rfl,ze,za rfl,ze,za rfl,ze,za rfl,ze,za rfl,ze,za rfl,za rfl,za rfl,za rfl,za rfl,za rfl,ze,za rfl,ze,za rfl,ze,za rfl,ze,za rfl,za rfl,za rfl,ze,za rfl,ze,za rfl,ze,za rfl,ze,za rfl,za rfl,za rfl,ze,za rfl,ze,za rfl,za rfl,za rfl,ze,za rfl,ze,za rfl,za rfl,za rfl,ze,za rfl,ze,za rfl,za rfl,za rfl,ze,za rfl,ze,za rfl,za rfl,za rfl,ze,za rfl,ze,za rfl,za rfl,za rfl,ze,za rfl,ze,za rfl,za rfl,za rfl,za rfl,ze,za rfl,ze,za rfl,za rfl,ze,za rfl,ze,za rfl,za rfl,ze,za rfl,ze,za rfl,za rfl,ze,za rfl,ze,za rfl,za rfl,za rfl,ze,za rfl,ze,za rfl,za rfl,za rfl,za rfl,za rfl,trivial⟩) ⟨zc (zcm (6:Int) v1 e1 s2 s3) rfl rfl rfl rfl,
  zc (zcm (-4:Int) v4 e4 s5 s6) rfl rfl rfl rfl,
  zc (f_rof v1 v4 v7 v8 e7 e8) rfl rfl rfl rfl,
  zc (zcm (0:Int) v9 e9 s10 s11) rfl rfl rfl rfl,
  zc (zcm (-7:Int) v12 e12 s13 s14) rfl rfl rfl rfl,
  zc (f_rof v9 v12 v15 v16 e15 e16) rfl rfl rfl rfl,
  zc (zcm (1:Int) v17 e17 s18 s19) rfl rfl rfl rfl,
  zc (zcm (0:Int) v20 e20 s21 s22) rfl rfl rfl rfl,
  zc (f_rof v17 v20 v23 v24 e23 e24) rfl rfl rfl rfl,
  zc (zbO v7 v8 (-3:Int) (2:Int) v25 e25 s26 s27) rfl rfl rfl rfl,
  e_un (zb rfl) (zb rfl) (fun W=>by rw [← e28];exact r_not W),
  e_fb (show pV (.bool v28)=_ by rw [h29]),
  zc (zbO v15 v16 (0:Int) (1:Int) v30 e30 s31 s32) rfl rfl rfl rfl,
  e_un (zb rfl) (zb rfl) (fun W=>by rw [← e33];exact r_not W),
  e_fb (show pV (.bool v33)=_ by rw [h34]),
  zc (zdt v23 v24 v35 e35) rfl rfl rfl rfl,
  e_un (zb rfl) (zb rfl) (fun W=>by rw [← e36];exact r_not W),
  e_fb (show pV (.bool v36)=_ by rw [h37]),
  zc (zc8 ((2:Int),(4:Int)) v38 e38 s39 s40) rfl rfl rfl rfl,
  zc (zbO v38 true (1:Int) (2:Int) v41 e41 s42 s43) rfl rfl rfl rfl,
  e_un (zb rfl) (zb rfl) (fun W=>by rw [← e44];exact r_not W),
  e_fb (show pV (.bool v44)=_ by rw [h45]),
  zc (zc8 ((1:Int),(-2:Int)) v46 e46 s47 s48) rfl rfl rfl rfl,
  zc (Fun.imp (as2:=[.o (.g [pB v46.1.1,pD v46.1.2,pB v46.2.1,pD v46.2.2]),.o (.g [pV (.bool false),pV (.slice none 0 0),pV (.bool false),pV (.slice none 0 0)])]) (zY v46 (rq none) v49 e49) (zfU ⟨fun _ _ _ h=>h,fun _ _ _ h=>zga h,trivial⟩) (fun _ _ _ h=>h)) rfl rfl rfl rfl,
  e_un (zb rfl) (zb rfl) (fun W=>by rw [← e50];exact r_not W),
  e_fb (show pV (.bool v50)=_ by rw [h51]),
  zc (f_lof (1:Int) (6:Int) v52 e52 s53 s54) rfl rfl rfl rfl,
  zc (f_lof (1:Int) (10:Int) v55 e55 s56 s57) rfl rfl rfl rfl,
  zc (zao v52 v55 v58 v59 e58 e59) rfl rfl rfl rfl,
  zc (f_lof (1:Int) (2:Int) v60 e60 s61 s62) rfl rfl rfl rfl,
  zc (f_lof (2:Int) (3:Int) v63 e63 s64 s65) rfl rfl rfl rfl,
  zc (zcN v60 v63 v66 v67 e66 e67) rfl rfl rfl rfl,
  zc (f_lof (2:Int) (3:Int) v68 e68 s69 s70) rfl rfl rfl rfl,
  zc (f_lof (3:Int) (4:Int) v71 e71 s72 s73) rfl rfl rfl rfl,
  zc (zap v68 v71 v74 v75 e74 e75) rfl rfl rfl rfl,
  zc (zbO v58 v59 (4:Int) (15:Int) v76 e76 s77 s78) rfl rfl rfl rfl,
  e_un (zb rfl) (zb rfl) (fun W=>by rw [← e79];exact r_not W),
  e_fb (show pV (.bool v79)=_ by rw [h80]),
  zc (zbO v66 v67 (-1:Int) (6:Int) v81 e81 s82 s83) rfl rfl rfl rfl,
  e_un (zb rfl) (zb rfl) (fun W=>by rw [← e84];exact r_not W),
  e_fb (show pV (.bool v84)=_ by rw [h85]),
  zc (zbO v74 v75 (1:Int) (2:Int) v86 e86 s87 s88) rfl rfl rfl rfl,
  e_un (zb rfl) (zb rfl) (fun W=>by rw [← e89];exact r_not W),
  e_fb (show pV (.bool v89)=_ by rw [h90]),
  zc (f_lof (1:Int) (2:Int) v91 e91 s92 s93) rfl rfl rfl rfl,
  zc (f_lof (-3:Int) (4:Int) v94 e94 s95 s96) rfl rfl rfl rfl,
  zc (zcD v91 v94 v97 v98 e97 e98) rfl rfl rfl rfl,
  zc (f_lof (1:Int) (2:Int) v99 e99 s100 s101) rfl rfl rfl rfl,
  zc (f_lof (0:Int) (1:Int) v102 e102 s103 s104) rfl rfl rfl rfl,
  zc (zcD v99 v102 v105 v106 e105 e106) rfl rfl rfl rfl,
  zc (zbO v97 v98 (-2:Int) (3:Int) v107 e107 s108 s109) rfl rfl rfl rfl,
  e_un (zb rfl) (zb rfl) (fun W=>by rw [← e110];exact r_not W),
  e_fb (show pV (.bool v110)=_ by rw [h111]),
  zc (zdt v105 v106 v112 e112) rfl rfl rfl rfl,
  e_un (zb rfl) (zb rfl) (fun W=>by rw [← e113];exact r_not W),
  e_fb (show pV (.bool v113)=_ by rw [h114]),
  zc (f_lof (1:Int) (3:Int) v115 e115 s116 s117) rfl rfl rfl rfl,
  zc (f_lof (333:Int) (1000:Int) v118 e118 s119 s120) rfl rfl rfl rfl,
  zc (zS v115 v118 v121 e121) rfl rfl rfl rfl,
  e_bin (zb rfl) zg (zb rfl) (r_cmp (congrArg some e122)),
  e_fb (show pV (.bool v122)=_ by rw [h123]),
  zc (f_lof (-1:Int) (2:Int) v124 e124 s125 s126) rfl rfl rfl rfl,
  zc (f_lof (-1:Int) (3:Int) v127 e127 s128 s129) rfl rfl rfl rfl,
  zc (zS v124 v127 v130 e130) rfl rfl rfl rfl,
  e_bin (zb rfl) zg (zb rfl) (r_cmp (congrArg some e131)),
  e_fb (show pV (.bool v131)=_ by rw [h132]),
  zc (f_lof (1:Int) (2:Int) v133 e133 s134 s135) rfl rfl rfl rfl,
  zc (Fun.imp (as2:=[.o (.g [pB v133.1.1,pD v133.1.2,pB v133.2.1,pD v133.2.2]),.o (.g [pV (.bool false),pV (.slice none 0 0),pV (.bool false),pV (.slice none 0 0)])]) (zS v133 (rq none) v136 e136) (zfU ⟨fun _ _ _ h=>h,fun _ _ _ h=>zga h,trivial⟩) (fun _ _ _ h=>h)) rfl rfl rfl rfl,
  e_bin (zb rfl) zg (zb rfl) (r_cmp (congrArg some e137)),
  e_fb (show pV (.bool v137)=_ by rw [h138]),
  zc (f_lof (-1:Int) (2:Int) v139 e139 s140 s141) rfl rfl rfl rfl,
  zc (qS v139 v142 e142) rfl rfl rfl rfl,
  e_bin (zb rfl) zg (zb rfl) (r_cmp (congrArg some e143)),
  e_fb (show pV (.bool v143)=_ by rw [h144]),
  zc (f_lof (7:Int) (2:Int) v145 e145 s146 s147) rfl rfl rfl rfl,
  zc (zfC v145 (3:Int) (4:Int) v148 e148) rfl rfl rfl rfl,
  e_un (zb rfl) (zb rfl) (fun W=>by rw [← e149];exact r_not W),
  e_fb (show pV (.bool v149)=_ by rw [h150]),
  zc (f_lof (-7:Int) (2:Int) v151 e151 s152 s153) rfl rfl rfl rfl,
  zc (zfC v151 (-4:Int) (-3:Int) v154 e154) rfl rfl rfl rfl,
  e_un (zb rfl) (zb rfl) (fun W=>by rw [← e155];exact r_not W),
  e_fb (show pV (.bool v155)=_ by rw [h156]),
  zc (f_lof (4:Int) (1:Int) v157 e157 s158 s159) rfl rfl rfl rfl,
  zc (zfC v157 (4:Int) (4:Int) v160 e160) rfl rfl rfl rfl,
  e_un (zb rfl) (zb rfl) (fun W=>by rw [← e161];exact r_not W),
  e_fb (show pV (.bool v161)=_ by rw [h162]),
  zc (f_lof (1:Int) (2:Int) v163 e163 s164 s165) rfl rfl rfl rfl,
  zc (qO v163 v166 e166) rfl rfl rfl rfl,
  e_un (zb rfl) (zb rfl) (fun W=>by rw [← e167];exact r_not W),
  e_fb (show pV (.bool v167)=_ by rw [h168]),
  zc (Fun.imp (as2:=[.o (.g [pV (.bool false),pV (.slice none 0 0),pV (.bool false),pV (.slice none 0 0)])]) (qO (rq none) v169 e169) (zfU ⟨fun _ _ _ h=>zga h,trivial⟩) (fun _ _ _ h=>h)) rfl rfl rfl rfl,
  e_fb (show pV (.bool v169)=_ by rw [h170]),
  zc (zc9 hM hTS [50,47,52] v171 v172 e171 e172 s173) rfl rfl rfl rfl,
  zc (zc9 hM hTS [51,47,49] v174 v175 e174 e175 s176) rfl rfl rfl rfl,
  zc (zc9 hM hTS [45,51,47,50] v177 v178 e177 e178 s179) rfl rfl rfl rfl,
  zc (f_lof (-3:Int) (2:Int) v180 e180 s181 s182) rfl rfl rfl rfl,
  zc (zcn (fun W h=>(hTS W h).1) v180 v183 e183) rfl rfl rfl rfl,
  e_bin (zb rfl) zg (zb rfl) (fun W X Y=>by rw [← e184];exact r_seq W X Y),
  e_fb (show pV (.bool v184)=_ by rw [h185]),
  zc (f_lof (5:Int) (1:Int) v186 e186 s187 s188) rfl rfl rfl rfl,
  zc (zcn (fun W h=>(hTS W h).1) v186 v189 e189) rfl rfl rfl rfl,
  e_bin (zb rfl) zg (zb rfl) (fun W X Y=>by rw [← e190];exact r_seq W X Y),
  e_fb (show pV (.bool v190)=_ by rw [h191]),
  e_un (zb rfl) (zb rfl) (fun W=>by rw [← e192];exact r_not W),
  e_fb (show pV (.bool v192)=_ by rw [h193]),
  e_un (zb rfl) (zb rfl) (fun W=>by rw [← e194];exact r_not W),
  e_fb (show pV (.bool v194)=_ by rw [h195]),
  zc (zbO v177 v178 (-3:Int) (2:Int) v196 e196 s197 s198) rfl rfl rfl rfl,
  trivial⟩ mixed (by kernel_rfl)) rfl rfl rfl rfl
theorem zwU:-9223372036854775808≤(6:Int):=by decide +kernel
theorem zwV:(6:Int)<9223372036854775808:=by decide +kernel
theorem zwW:-9223372036854775808≤(-4:Int):=by decide +kernel
theorem zwX:(-4:Int)<9223372036854775808:=by decide +kernel
theorem zva:-9223372036854775808≤(0:Int):=by decide +kernel
theorem zvb:(0:Int)<9223372036854775808:=by decide +kernel
theorem zvc:-9223372036854775808≤(-7:Int):=by decide +kernel
theorem zvd:(-7:Int)<9223372036854775808:=by decide +kernel
theorem zve:-9223372036854775808≤(1:Int):=by decide +kernel
theorem zvf:(1:Int)<9223372036854775808:=by decide +kernel
theorem zvg:-9223372036854775808≤(0:Int):=by decide +kernel
theorem zvh:(0:Int)<9223372036854775808:=by decide +kernel
theorem zvi:InR (-3:Int):=by unfold InR;decide
theorem zvj:InR (2:Int):=by unfold InR;decide
theorem zu2:(!((((ofX (nz (6:Int)) (nz (-4:Int))).isSome) && decide ((rq (ofX (nz (6:Int)) (nz (-4:Int))))=rq (ofX (nz (-3:Int)) (nz (2:Int)))))))=false:=by decide +kernel
theorem zvk:InR (0:Int):=by unfold InR;decide
theorem zvl:InR (1:Int):=by unfold InR;decide
theorem zu3:(!((((ofX (nz (0:Int)) (nz (-7:Int))).isSome) && decide ((rq (ofX (nz (0:Int)) (nz (-7:Int))))=rq (ofX (nz (0:Int)) (nz (1:Int)))))))=false:=by decide +kernel
theorem zu4:(!((!((ofX (nz (1:Int)) (nz (0:Int))).isSome) && decide ((rq (ofX (nz (1:Int)) (nz (0:Int))))=rq none))))=false:=by decide +kernel
theorem zvm:InR ((2:Int),(4:Int)).1:=by unfold InR;decide
theorem zvn:InR ((2:Int),(4:Int)).2:=by unfold InR;decide
theorem zvo:InR (1:Int):=by unfold InR;decide
theorem zvp:InR (2:Int):=by unfold InR;decide
theorem zu5:(!((true && decide ((rq (fracR ((2:Int),(4:Int)).1 ((2:Int),(4:Int)).2))=rq (ofX (nz (1:Int)) (nz (2:Int)))))))=false:=by decide +kernel
theorem zvq:InR ((1:Int),(-2:Int)).1:=by unfold InR;decide
theorem zvr:InR ((1:Int),(-2:Int)).2:=by unfold InR;decide
theorem zu6:(!(decide ((rq (fracR ((1:Int),(-2:Int)).1 ((1:Int),(-2:Int)).2))=(rq none))))=false:=by decide +kernel
theorem zvs:InR (1:Int):=by unfold InR;decide
theorem zvt:InR (6:Int):=by unfold InR;decide
theorem zvu:InR (1:Int):=by unfold InR;decide
theorem zvv:InR (10:Int):=by unfold InR;decide
theorem zvw:InR (1:Int):=by unfold InR;decide
theorem zvx:InR (2:Int):=by unfold InR;decide
theorem zvy:InR (2:Int):=by unfold InR;decide
theorem zvz:InR (3:Int):=by unfold InR;decide
theorem zvA:InR (2:Int):=by unfold InR;decide
theorem zvB:InR (3:Int):=by unfold InR;decide
theorem zvC:InR (3:Int):=by unfold InR;decide
theorem zvD:InR (4:Int):=by unfold InR;decide
theorem zvE:InR (4:Int):=by unfold InR;decide
theorem zvF:InR (15:Int):=by unfold InR;decide
theorem zu7:(!((((addR (qq (rq (ofX (nz (1:Int)) (nz (6:Int))))) (qq (rq (ofX (nz (1:Int)) (nz (10:Int)))))).isSome) && decide ((rq (addR (qq (rq (ofX (nz (1:Int)) (nz (6:Int))))) (qq (rq (ofX (nz (1:Int)) (nz (10:Int)))))))=rq (ofX (nz (4:Int)) (nz (15:Int)))))))=false:=by decide +kernel
theorem zvG:InR (-1:Int):=by unfold InR;decide
theorem zvH:InR (6:Int):=by unfold InR;decide
theorem zu8:(!((((subR (qq (rq (ofX (nz (1:Int)) (nz (2:Int))))) (qq (rq (ofX (nz (2:Int)) (nz (3:Int)))))).isSome) && decide ((rq (subR (qq (rq (ofX (nz (1:Int)) (nz (2:Int))))) (qq (rq (ofX (nz (2:Int)) (nz (3:Int)))))))=rq (ofX (nz (-1:Int)) (nz (6:Int)))))))=false:=by decide +kernel
theorem zvI:InR (1:Int):=by unfold InR;decide
theorem zvJ:InR (2:Int):=by unfold InR;decide
theorem zu9:(!((((mulR (qq (rq (ofX (nz (2:Int)) (nz (3:Int))))) (qq (rq (ofX (nz (3:Int)) (nz (4:Int)))))).isSome) && decide ((rq (mulR (qq (rq (ofX (nz (2:Int)) (nz (3:Int))))) (qq (rq (ofX (nz (3:Int)) (nz (4:Int)))))))=rq (ofX (nz (1:Int)) (nz (2:Int)))))))=false:=by decide +kernel
theorem zvK:InR (1:Int):=by unfold InR;decide
theorem zvL:InR (2:Int):=by unfold InR;decide
theorem zvM:InR (-3:Int):=by unfold InR;decide
theorem zvN:InR (4:Int):=by unfold InR;decide
theorem zrP:InR (1:Int):=by unfold InR;decide
theorem zrQ:InR (2:Int):=by unfold InR;decide
theorem zrR:InR (0:Int):=by unfold InR;decide
theorem zrS:InR (1:Int):=by unfold InR;decide
theorem zrT:InR (-2:Int):=by unfold InR;decide
theorem zrU:InR (3:Int):=by unfold InR;decide
theorem zrz:(!((((divR (qq (rq (ofX (nz (1:Int)) (nz (2:Int))))) (qq (rq (ofX (nz (-3:Int)) (nz (4:Int)))))).isSome) && decide ((rq (divR (qq (rq (ofX (nz (1:Int)) (nz (2:Int))))) (qq (rq (ofX (nz (-3:Int)) (nz (4:Int)))))))=rq (ofX (nz (-2:Int)) (nz (3:Int)))))))=false:=by decide +kernel
theorem zrA:(!((!((divR (qq (rq (ofX (nz (1:Int)) (nz (2:Int))))) (qq (rq (ofX (nz (0:Int)) (nz (1:Int)))))).isSome) && decide ((rq (divR (qq (rq (ofX (nz (1:Int)) (nz (2:Int))))) (qq (rq (ofX (nz (0:Int)) (nz (1:Int)))))))=rq none))))=false:=by decide +kernel
theorem zrV:InR (1:Int):=by unfold InR;decide
theorem zrW:InR (3:Int):=by unfold InR;decide
theorem zrX:InR (333:Int):=by unfold InR;decide
theorem zrY:InR (1000:Int):=by unfold InR;decide
theorem zrB:(((cmpO (qq (rq (ofX (nz (1:Int)) (nz (3:Int))))) (qq (rq (ofX (nz (333:Int)) (nz (1000:Int)))))) != (1:Int)))=false:=by decide +kernel
theorem zrZ:InR (-1:Int):=by unfold InR;decide
theorem zr0:InR (2:Int):=by unfold InR;decide
theorem zr1:InR (-1:Int):=by unfold InR;decide
theorem zr2:InR (3:Int):=by unfold InR;decide
theorem zrC:(((cmpO (qq (rq (ofX (nz (-1:Int)) (nz (2:Int))))) (qq (rq (ofX (nz (-1:Int)) (nz (3:Int)))))) != (-1:Int)))=false:=by decide +kernel
theorem zr3:InR (1:Int):=by unfold InR;decide
theorem zr4:InR (2:Int):=by unfold InR;decide
theorem zrD:(((cmpO (qq (rq (ofX (nz (1:Int)) (nz (2:Int))))) (qq (rq none))) != (0:Int)))=false:=by decide +kernel
theorem zr5:InR (-1:Int):=by unfold InR;decide
theorem zr6:InR (2:Int):=by unfold InR;decide
theorem zrE:(((sgX (rq (ofX (nz (-1:Int)) (nz (2:Int)))).1 (rq (ofX (nz (-1:Int)) (nz (2:Int)))).2) != (-1:Int)))=false:=by decide +kernel
theorem zr7:InR (7:Int):=by unfold InR;decide
theorem zr8:InR (2:Int):=by unfold InR;decide
theorem zrF:(!(zbL (rq (ofX (nz (7:Int)) (nz (2:Int)))) (3:Int) (4:Int)))=false:=by decide +kernel
theorem zr9:InR (-7:Int):=by unfold InR;decide
theorem zsa:InR (2:Int):=by unfold InR;decide
theorem zrG:(!(zbL (rq (ofX (nz (-7:Int)) (nz (2:Int)))) (-4:Int) (-3:Int)))=false:=by decide +kernel
theorem zsb:InR (4:Int):=by unfold InR;decide
theorem zsc:InR (1:Int):=by unfold InR;decide
theorem zrH:(!(zbL (rq (ofX (nz (4:Int)) (nz (1:Int)))) (4:Int) (4:Int)))=false:=by decide +kernel
theorem zsd:InR (1:Int):=by unfold InR;decide
theorem zse:InR (2:Int):=by unfold InR;decide
theorem zrI:(!(rrX (rq (ofX (nz (1:Int)) (nz (2:Int)))).1 (rq (ofX (nz (1:Int)) (nz (2:Int)))).2))=false:=by decide +kernel
theorem zrJ:(rrX (rq none).1 (rq none).2)=false:=by decide +kernel
theorem zsf:([50,47,52]:List UInt8).length<4294967281:=by decide +kernel
theorem zsg:([51,47,49]:List UInt8).length<4294967281:=by decide +kernel
theorem zsh:([45,51,47,50]:List UInt8).length<4294967281:=by decide +kernel
theorem zsi:InR (-3:Int):=by unfold InR;decide
theorem zsj:InR (2:Int):=by unfold InR;decide
theorem zrK:((((textR (rq (ofX (nz (-3:Int)) (nz (2:Int))))):List UInt8) == [45,51,47,50]))=true:=by decide +kernel
theorem zsk:InR (5:Int):=by unfold InR;decide
theorem zsl:InR (1:Int):=by unfold InR;decide
theorem zrL:((((textR (rq (ofX (nz (5:Int)) (nz (1:Int))))):List UInt8) == [53]))=true:=by decide +kernel
theorem zrM:(!(okP [50,47,52]))=true:=by decide +kernel
theorem zrN:(!(okP [51,47,49]))=true:=by decide +kernel
theorem zsm:InR (-3:Int):=by unfold InR;decide
theorem zsn:InR (2:Int):=by unfold InR;decide
theorem zrO:((okP [45,51,47,50]) && decide ((parR [45,51,47,50])=rq (ofX (nz (-3:Int)) (nz (2:Int)))))=true:=by decide +kernel
theorem qE {w0:World} (hM:∀W,Below w0.heap.size w0 W→MaxT W) (hTS:∀W,Below w0.heap.size w0 W→PowT w0.heap.size W∧SynT w0.heap.size W) (o:Bool) (ho:true=o):Fun (KN w0) Tryz.prog 10 [] (.o (.c (pB o))):=by
 rw [← ho]
 exact zmU hM hTS _ _ _ _ _ _ _ _ _ _ _ _ _ _ _ _ _ _ _ _ _ _ _ _ _ _ _ _ _ _ _ _ _ _ _ _ _ _ _ _ _ _ _ _ _ _ _ _ _ _ _ _ _ _ _ _ _ _ _ _ _ _ _ _ _ _ _ _ _ _ _ _ _ _ _ _ _ _ _ _ _ _ _ _ _ _ _ _ _ _ _ _ _ _ _ _ rfl rfl rfl rfl rfl rfl rfl rfl rfl rfl rfl rfl rfl rfl rfl rfl rfl rfl rfl rfl rfl rfl rfl rfl rfl rfl rfl rfl rfl rfl rfl rfl rfl rfl rfl rfl rfl rfl rfl rfl rfl rfl rfl rfl rfl rfl rfl rfl rfl rfl rfl rfl rfl rfl rfl rfl rfl rfl rfl rfl rfl rfl rfl rfl rfl rfl rfl rfl rfl rfl rfl rfl rfl rfl rfl rfl rfl rfl rfl rfl rfl rfl rfl rfl rfl rfl rfl rfl rfl rfl rfl rfl rfl rfl rfl zrO zwU zwV zwW zwX zva zvb zvc zvd zve zvf zvg zvh zvi zvj zu2 zvk zvl zu3 zu4 zvm zvn zvo zvp zu5 zvq zvr zu6 zvs zvt zvu zvv zvw zvx zvy zvz zvA zvB zvC zvD zvE zvF zu7 zvG zvH zu8 zvI zvJ zu9 zvK zvL zvM zvN zrP zrQ zrR zrS zrT zrU zrz zrA zrV zrW zrX zrY zrB zrZ zr0 zr1 zr2 zrC zr3 zr4 zrD zr5 zr6 zrE zr7 zr8 zrF zr9 zsa zrG zsb zsc zrH zsd zse zrI zrJ zsf zsg zsh zsi zsj zrK zsk zsl zrL zrM zrN zsm zsn
end Go.Proofs.YtccjiodohphgnaaGreatDoor
