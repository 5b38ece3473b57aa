/-
  Merged: RtI, RtJ.
-/
import Derived.Test.YtjcegdldgjphiaaGreatDoorGlAP
import Derived.Test.YtjcegdldgjphiaaGreatDoorGlAI
import Derived.Lib.IndexBytes
set_option linter.unusedSimpArgs false
set_option linter.unusedVariables false
namespace Go.Proofs.YtjcegdldgjphiaaGreatDoor
open Go.RowKit Go.Shelf
def MaxT (W:World):Prop:=∃m:Int,W.cell? ⟨2,0,none⟩=some (.int .i64 m)
theorem oka2 {p q:PSh} {vs:List Value} {W:World} {D:Dat} (h:oka [p,q] vs W D):∃v u,vs=[v,u]∧p.ok v W D∧q.ok u W D:=by
 match vs,h with
 | [v,u],h=>exact ⟨v,u,rfl,h.1,h.2.1⟩
 | [],h=>exact h.elim
 | [_],h=>exact h.2.elim
 | _::_::_::_,h=>exact h.2.2.elim
abbrev LM (w0:World):Prop:=∀W,Below w0.heap.size w0 W→MaxT W
abbrev LS (w0:World):Prop:=∀W,Below w0.heap.size w0 W→PowT w0.heap.size W∧SynT w0.heap.size W
theorem f_cut {w0:World} (hM:LM w0) (s p a b:List UInt8) (o:Bool) (ha:(Lib.cut s p).1=a) (hb:(Lib.cut s p).2.1=b) (ho:(Lib.cut s p).2.2=o) (hl:s.length<4294967281):Fun (KN w0) Tryz.prog 108 [.o (.c (pS s)),.o (.c (pS p))] (.t [.c (pS a),.c (pS b),.c (pB o)]):=by
 subst ha;subst hb;subst ho
 intro W D vs hs hf
 obtain ⟨v,u,rfl,hv,hu⟩:=oka2 hs
 have e:v=.string (bs s):=hv
 have e2:u=.string (bs p):=hu
 subst e;subst e2
 obtain ⟨m,hm⟩:=hM W hf.bel
 refine (Tryz.strings_Cut (bs s) (bs p) m W hl hm).mono fun e W' hr=>?_
 obtain ⟨rfl,n,rfl⟩:=hr
 exact ⟨_,D,rfl,⟨_,rfl,rfl,rfl,rfl,trivial⟩,Kept.of hf ((Below.refl _ _).trans ⟨rfl,rfl,rfl,Nat.le_refl _,fun _ _=>rfl⟩)⟩
def qt (s:List UInt8):Nat:=s.findIdx (· == 47)
def zhg (s:List UInt8):List UInt8:=s.take (qt s)
def zeJ (s:List UInt8):List UInt8:=if qt s<s.length then s.drop (qt s+1) else [49]
theorem zlJ (s:List UInt8):qt s≤s.length:=List.findIdx_le_length
theorem zcy:∀s:List UInt8,Lib.index s [47]=if qt s<s.length then (qt s:Int) else -1
 | []=>by simp [Lib.index,qt]
 | c::s=>by
  have ih:=zcy s
  unfold Lib.index qt
  rw [List.findIdx_cons]
  by_cases hc:c=47
  ·subst hc;simp [List.isPrefixOf]
  ·have h1:([47]:List UInt8).isPrefixOf (c::s)=false:=by simp [List.isPrefixOf];exact fun h=>hc h.symm
   have h2:(c == 47)=false:=by simp [hc]
   rw [h1,h2,ih]
   show (if _ then _ else _)=_
   simp only [cond_false,List.length_cons,Nat.add_lt_add_iff_right,Bool.false_eq_true,if_false]
   show _=if qt s<s.length then ((qt s+1:Nat):Int) else -1
   by_cases h:qt s<s.length
   ·rw [if_pos h,if_pos h,if_neg (by rw [beq_iff_eq];omega)];omega
   ·rw [if_neg h,if_neg h];try rfl
theorem zA (s:List UInt8):(Lib.cut s [47]).1=zhg s∧(Lib.cut s [47]).2.2=decide (qt s<s.length)∧((Lib.cut s [47]).2.2=true→(Lib.cut s [47]).2.1=zeJ s)∧((Lib.cut s [47]).2.2=false→zeJ s=[49]):=by
 unfold Lib.cut zhg zeJ
 rw [zcy]
 by_cases h:qt s<s.length
 ·rw [if_pos h,if_pos (by omega)];simp [h]
 ·have:=zlJ s
  rw [if_neg h,if_neg (by decide)]
  have e:s.take (qt s)=s:=List.take_of_length_le (by omega)
  simp [h,e]
def rawP (s:List UInt8):RR:=(nz (vO (zn (zhg s))),nz (vO (zn (zeJ s))))
def okP (s:List UInt8):Bool:=okO (zn (zhg s)) && okO (zn (zeJ s)) && rrX (rawP s).1 (rawP s).2 && (textR (rawP s) == s)
def parR (s:List UInt8):RR:=if okP s=true then rawP s else rq none
theorem zgt {w0:World} (s:(List UInt8))(hM:LM w0) (hTS:LS w0) (v1:(List UInt8)) (v2:(List UInt8)) (v3:Bool) (v5:Bool) (v7:Raw) (v8:Bool) (v9:Raw) (v10:Bool) (v13:Bool) (v15:(List UInt8)) (v16:Bool) (e1:((Lib.cut s [47]).1)=v1) (e2:((Lib.cut s [47]).2.1)=v2) (e3:((Lib.cut s [47]).2.2)=v3) (e5:(!v3)=v5) (e7:(nz (vO (zn v1)))=v7) (e8:(okO (zn v1))=v8) (e9:(nz (vO (zn [49])))=v9) (e10:(okO (zn [49]))=v10) (e13:(rrX (v7,v9).1 (v7,v9).2)=v13) (e15:(textR (v7,v9))=v15) (e16:(((v15:List UInt8) == s))=v16) (s4:(s:List UInt8).length<4294967281) (h6:v5=true) (h11:v8=true) (h12:v10=true) (h14:v13=true) (h17:v16=true):Fun (KN w0) Tryz.prog 86 [.o (.c (pS s))] (.t [.g [pB v7.1,pD v7.2,pB v9.1,pD v9.2],.c (pV (.bool true))]):=
 zi (zl (F:=FL [pS s,pS v1,pS v2,pB v3,pB v5,pB v7.1,pD v7.2,pB v8,pB v9.1,pD v9.2,pB v10,pB v13,pS v15,pB v16] []) (C:=[(1000003,.call ⟨108,[yh 0,.o (.c (.k (.string ⟨#[47]⟩)))],[],.t [.c (.h 1),.c (.h 2),.c (.h 3)],[]⟩),
  (1000012,.un .not (yh 3) (yh 4)),
  (10004,.fb 4 true),
  (1000015,.call ⟨109,[yh 1],[],.t [.g [.h 5,.h 6],.c (.h 7)],[]⟩),
  (1000023,.call ⟨109,[.o (.c (.k (.string ⟨#[49]⟩)))],[],.t [.g [.h 8,.h 9],.c (.h 10)],[]⟩),
  (10007,.fb 7 true),
  (10010,.fb 10 true),
  (1000041,.call ⟨46,[.o (.g [.h 5,.h 6,.h 8,.h 9])],[],yh 11,[]⟩),
  (10011,.fb 11 true),
  (1000045,.call ⟨47,[.o (.g [.h 5,.h 6,.h 8,.h 9])],[],yh 12,[]⟩),
  (1000047,.bin .eql 9 (yh 12) (yh 0) (yh 13)),
  (10013,.fb 13 true)]) (k:=⟨86,[yh 0],[],.t [.g [.h 5,.h 6,.h 8,.h 9],.c (.k (.bool true))],[]⟩) 0 (zf ⟨zb,zb,zb,zb,zb,zb,zj,zb,zb,zj,zb,zb,zb,zb,trivial⟩) ⟨ze (f_cut hM s [47] v1 v2 v3 e1 e2 e3 s4),
  e_un (za rfl) (za rfl) (fun W=>by rw [← e5];exact r_not W),
  e_fbv h6,
  ze (zT hTS v1 v7 v8 e7 e8),
  ze (zT hTS [49] v9 v10 e9 e10),
  e_fbv h11,
  e_fbv h12,
  ze (qq (v7,v9) v13 e13),
  e_fbv h14,
  ze (zcu (fun W h=>(hTS W h).1) (v7,v9) v15 e15),
  e_bin (za rfl) (za rfl) (za rfl) (fun W X Y=>by rw [← e16];exact r_seq W X Y),
  e_fbv h17,
  trivial⟩ mixed (by kernel_rfl))
theorem zgu {w0:World} (s:(List UInt8))(hM:LM w0) (hTS:LS w0) (v1:(List UInt8)) (v2:(List UInt8)) (v3:Bool) (v5:Bool) (v7:Raw) (v8:Bool) (v9:Raw) (v10:Bool) (v13:Bool) (v15:(List UInt8)) (v16:Bool) (e1:((Lib.cut s [47]).1)=v1) (e2:((Lib.cut s [47]).2.1)=v2) (e3:((Lib.cut s [47]).2.2)=v3) (e5:(!v3)=v5) (e7:(nz (vO (zn v1)))=v7) (e8:(okO (zn v1))=v8) (e9:(nz (vO (zn [49])))=v9) (e10:(okO (zn [49]))=v10) (e13:(rrX (v7,v9).1 (v7,v9).2)=v13) (e15:(textR (v7,v9))=v15) (e16:(((v15:List UInt8) == s))=v16) (s4:(s:List UInt8).length<4294967281) (h6:v5=true) (h11:v8=true) (h12:v10=true) (h14:v13=true) (h17:v16=false):Fun (KN w0) Tryz.prog 86 [.o (.c (pS s))] (.t [.g [pV (.bool false),pV (.slice none 0 0),pV (.bool false),pV (.slice none 0 0)],.c (pV (.bool false))]):=
 zi (zl (F:=FL [pS s,pS v1,pS v2,pB v3,pB v5,pB v7.1,pD v7.2,pB v8,pB v9.1,pD v9.2,pB v10,pB v13,pS v15,pB v16] []) (C:=[(1000003,.call ⟨108,[yh 0,.o (.c (.k (.string ⟨#[47]⟩)))],[],.t [.c (.h 1),.c (.h 2),.c (.h 3)],[]⟩),
  (1000012,.un .not (yh 3) (yh 4)),
  (10004,.fb 4 true),
  (1000015,.call ⟨109,[yh 1],[],.t [.g [.h 5,.h 6],.c (.h 7)],[]⟩),
  (1000023,.call ⟨109,[.o (.c (.k (.string ⟨#[49]⟩)))],[],.t [.g [.h 8,.h 9],.c (.h 10)],[]⟩),
  (10007,.fb 7 true),
  (10010,.fb 10 true),
  (1000041,.call ⟨46,[.o (.g [.h 5,.h 6,.h 8,.h 9])],[],yh 11,[]⟩),
  (10011,.fb 11 true),
  (1000045,.call ⟨47,[.o (.g [.h 5,.h 6,.h 8,.h 9])],[],yh 12,[]⟩),
  (1000047,.bin .eql 9 (yh 12) (yh 0) (yh 13)),
  (10013,.fb 13 false)]) (k:=⟨86,[yh 0],[],.t [.g [.k (.bool false),.k (.slice none 0 0),.k (.bool false),.k (.slice none 0 0)],.c (.k (.bool false))],[]⟩) 0 (zf ⟨zb,zb,zb,zb,zb,zb,zj,zb,zb,zj,zb,zb,zb,zb,trivial⟩) ⟨ze (f_cut hM s [47] v1 v2 v3 e1 e2 e3 s4),
  e_un (za rfl) (za rfl) (fun W=>by rw [← e5];exact r_not W),
  e_fbv h6,
  ze (zT hTS v1 v7 v8 e7 e8),
  ze (zT hTS [49] v9 v10 e9 e10),
  e_fbv h11,
  e_fbv h12,
  ze (qq (v7,v9) v13 e13),
  e_fbv h14,
  ze (zcu (fun W h=>(hTS W h).1) (v7,v9) v15 e15),
  e_bin (za rfl) (za rfl) (za rfl) (fun W X Y=>by rw [← e16];exact r_seq W X Y),
  e_fbv h17,
  trivial⟩ mixed (by kernel_rfl))
theorem zgv {w0:World} (s:(List UInt8))(hM:LM w0) (hTS:LS w0) (v1:(List UInt8)) (v2:(List UInt8)) (v3:Bool) (v5:Bool) (v7:Raw) (v8:Bool) (v9:Raw) (v10:Bool) (v13:Bool) (e1:((Lib.cut s [47]).1)=v1) (e2:((Lib.cut s [47]).2.1)=v2) (e3:((Lib.cut s [47]).2.2)=v3) (e5:(!v3)=v5) (e7:(nz (vO (zn v1)))=v7) (e8:(okO (zn v1))=v8) (e9:(nz (vO (zn [49])))=v9) (e10:(okO (zn [49]))=v10) (e13:(rrX (v7,v9).1 (v7,v9).2)=v13) (s4:(s:List UInt8).length<4294967281) (h6:v5=true) (h11:v8=true) (h12:v10=true) (h14:v13=false):Fun (KN w0) Tryz.prog 86 [.o (.c (pS s))] (.t [.g [pV (.bool false),pV (.slice none 0 0),pV (.bool false),pV (.slice none 0 0)],.c (pV (.bool false))]):=
 zi (zl (F:=FL [pS s,pS v1,pS v2,pB v3,pB v5,pB v7.1,pD v7.2,pB v8,pB v9.1,pD v9.2,pB v10,pB v13] []) (C:=[(1000003,.call ⟨108,[yh 0,.o (.c (.k (.string ⟨#[47]⟩)))],[],.t [.c (.h 1),.c (.h 2),.c (.h 3)],[]⟩),
  (1000012,.un .not (yh 3) (yh 4)),
  (10004,.fb 4 true),
  (1000015,.call ⟨109,[yh 1],[],.t [.g [.h 5,.h 6],.c (.h 7)],[]⟩),
  (1000023,.call ⟨109,[.o (.c (.k (.string ⟨#[49]⟩)))],[],.t [.g [.h 8,.h 9],.c (.h 10)],[]⟩),
  (10007,.fb 7 true),
  (10010,.fb 10 true),
  (1000041,.call ⟨46,[.o (.g [.h 5,.h 6,.h 8,.h 9])],[],yh 11,[]⟩),
  (10011,.fb 11 false)]) (k:=⟨86,[yh 0],[],.t [.g [.k (.bool false),.k (.slice none 0 0),.k (.bool false),.k (.slice none 0 0)],.c (.k (.bool false))],[]⟩) 0 (zf ⟨zb,zb,zb,zb,zb,zb,zj,zb,zb,zj,zb,zb,trivial⟩) ⟨ze (f_cut hM s [47] v1 v2 v3 e1 e2 e3 s4),
  e_un (za rfl) (za rfl) (fun W=>by rw [← e5];exact r_not W),
  e_fbv h6,
  ze (zT hTS v1 v7 v8 e7 e8),
  ze (zT hTS [49] v9 v10 e9 e10),
  e_fbv h11,
  e_fbv h12,
  ze (qq (v7,v9) v13 e13),
  e_fbv h14,
  trivial⟩ mixed (by kernel_rfl))
theorem zgw {w0:World} (s:(List UInt8))(hM:LM w0) (hTS:LS w0) (v1:(List UInt8)) (v2:(List UInt8)) (v3:Bool) (v5:Bool) (v7:Raw) (v8:Bool) (v9:Raw) (v10:Bool) (e1:((Lib.cut s [47]).1)=v1) (e2:((Lib.cut s [47]).2.1)=v2) (e3:((Lib.cut s [47]).2.2)=v3) (e5:(!v3)=v5) (e7:(nz (vO (zn v1)))=v7) (e8:(okO (zn v1))=v8) (e9:(nz (vO (zn [49])))=v9) (e10:(okO (zn [49]))=v10) (s4:(s:List UInt8).length<4294967281) (h6:v5=true) (h11:v8=true) (h12:v10=false):Fun (KN w0) Tryz.prog 86 [.o (.c (pS s))] (.t [.g [pV (.bool false),pV (.slice none 0 0),pV (.bool false),pV (.slice none 0 0)],.c (pV (.bool false))]):=
 zi (zl (F:=FL [pS s,pS v1,pS v2,pB v3,pB v5,pB v7.1,pD v7.2,pB v8,pB v9.1,pD v9.2,pB v10] []) (C:=[(1000003,.call ⟨108,[yh 0,.o (.c (.k (.string ⟨#[47]⟩)))],[],.t [.c (.h 1),.c (.h 2),.c (.h 3)],[]⟩),
  (1000012,.un .not (yh 3) (yh 4)),
  (10004,.fb 4 true),
  (1000015,.call ⟨109,[yh 1],[],.t [.g [.h 5,.h 6],.c (.h 7)],[]⟩),
  (1000023,.call ⟨109,[.o (.c (.k (.string ⟨#[49]⟩)))],[],.t [.g [.h 8,.h 9],.c (.h 10)],[]⟩),
  (10007,.fb 7 true),
  (10010,.fb 10 false)]) (k:=⟨86,[yh 0],[],.t [.g [.k (.bool false),.k (.slice none 0 0),.k (.bool false),.k (.slice none 0 0)],.c (.k (.bool false))],[]⟩) 0 (zf ⟨zb,zb,zb,zb,zb,zb,zj,zb,zb,zj,zb,trivial⟩) ⟨ze (f_cut hM s [47] v1 v2 v3 e1 e2 e3 s4),
  e_un (za rfl) (za rfl) (fun W=>by rw [← e5];exact r_not W),
  e_fbv h6,
  ze (zT hTS v1 v7 v8 e7 e8),
  ze (zT hTS [49] v9 v10 e9 e10),
  e_fbv h11,
  e_fbv h12,
  trivial⟩ mixed (by kernel_rfl))
theorem zgx {w0:World} (s:(List UInt8))(hM:LM w0) (hTS:LS w0) (v1:(List UInt8)) (v2:(List UInt8)) (v3:Bool) (v5:Bool) (v7:Raw) (v8:Bool) (v9:Raw) (v10:Bool) (e1:((Lib.cut s [47]).1)=v1) (e2:((Lib.cut s [47]).2.1)=v2) (e3:((Lib.cut s [47]).2.2)=v3) (e5:(!v3)=v5) (e7:(nz (vO (zn v1)))=v7) (e8:(okO (zn v1))=v8) (e9:(nz (vO (zn [49])))=v9) (e10:(okO (zn [49]))=v10) (s4:(s:List UInt8).length<4294967281) (h6:v5=true) (h11:v8=false):Fun (KN w0) Tryz.prog 86 [.o (.c (pS s))] (.t [.g [pV (.bool false),pV (.slice none 0 0),pV (.bool false),pV (.slice none 0 0)],.c (pV (.bool false))]):=
 zi (zl (F:=FL [pS s,pS v1,pS v2,pB v3,pB v5,pB v7.1,pD v7.2,pB v8,pB v9.1,pD v9.2,pB v10] []) (C:=[(1000003,.call ⟨108,[yh 0,.o (.c (.k (.string ⟨#[47]⟩)))],[],.t [.c (.h 1),.c (.h 2),.c (.h 3)],[]⟩),
  (1000012,.un .not (yh 3) (yh 4)),
  (10004,.fb 4 true),
  (1000015,.call ⟨109,[yh 1],[],.t [.g [.h 5,.h 6],.c (.h 7)],[]⟩),
  (1000023,.call ⟨109,[.o (.c (.k (.string ⟨#[49]⟩)))],[],.t [.g [.h 8,.h 9],.c (.h 10)],[]⟩),
  (10007,.fb 7 false)]) (k:=⟨86,[yh 0],[],.t [.g [.k (.bool false),.k (.slice none 0 0),.k (.bool false),.k (.slice none 0 0)],.c (.k (.bool false))],[]⟩) 0 (zf ⟨zb,zb,zb,zb,zb,zb,zj,zb,zb,zj,zb,trivial⟩) ⟨ze (f_cut hM s [47] v1 v2 v3 e1 e2 e3 s4),
  e_un (za rfl) (za rfl) (fun W=>by rw [← e5];exact r_not W),
  e_fbv h6,
  ze (zT hTS v1 v7 v8 e7 e8),
  ze (zT hTS [49] v9 v10 e9 e10),
  e_fbv h11,
  trivial⟩ mixed (by kernel_rfl))
theorem zgy {w0:World} (s:(List UInt8))(hM:LM w0) (hTS:LS w0) (v1:(List UInt8)) (v2:(List UInt8)) (v3:Bool) (v5:Bool) (v7:Raw) (v8:Bool) (v9:Raw) (v10:Bool) (v13:Bool) (v15:(List UInt8)) (v16:Bool) (e1:((Lib.cut s [47]).1)=v1) (e2:((Lib.cut s [47]).2.1)=v2) (e3:((Lib.cut s [47]).2.2)=v3) (e5:(!v3)=v5) (e7:(nz (vO (zn v1)))=v7) (e8:(okO (zn v1))=v8) (e9:(nz (vO (zn v2)))=v9) (e10:(okO (zn v2))=v10) (e13:(rrX (v7,v9).1 (v7,v9).2)=v13) (e15:(textR (v7,v9))=v15) (e16:(((v15:List UInt8) == s))=v16) (s4:(s:List UInt8).length<4294967281) (h6:v5=false) (h11:v8=true) (h12:v10=true) (h14:v13=true) (h17:v16=true):Fun (KN w0) Tryz.prog 86 [.o (.c (pS s))] (.t [.g [pB v7.1,pD v7.2,pB v9.1,pD v9.2],.c (pV (.bool true))]):=
 zi (zl (F:=FL [pS s,pS v1,pS v2,pB v3,pB v5,pB v7.1,pD v7.2,pB v8,pB v9.1,pD v9.2,pB v10,pB v13,pS v15,pB v16] []) (C:=[(1000003,.call ⟨108,[yh 0,.o (.c (.k (.string ⟨#[47]⟩)))],[],.t [.c (.h 1),.c (.h 2),.c (.h 3)],[]⟩),
  (1000012,.un .not (yh 3) (yh 4)),
  (10004,.fb 4 false),
  (1000014,.call ⟨109,[yh 1],[],.t [.g [.h 5,.h 6],.c (.h 7)],[]⟩),
  (1000022,.call ⟨109,[yh 2],[],.t [.g [.h 8,.h 9],.c (.h 10)],[]⟩),
  (10007,.fb 7 true),
  (10010,.fb 10 true),
  (1000040,.call ⟨46,[.o (.g [.h 5,.h 6,.h 8,.h 9])],[],yh 11,[]⟩),
  (10011,.fb 11 true),
  (1000044,.call ⟨47,[.o (.g [.h 5,.h 6,.h 8,.h 9])],[],yh 12,[]⟩),
  (1000046,.bin .eql 9 (yh 12) (yh 0) (yh 13)),
  (10013,.fb 13 true)]) (k:=⟨86,[yh 0],[],.t [.g [.h 5,.h 6,.h 8,.h 9],.c (.k (.bool true))],[]⟩) 0 (zf ⟨zb,zb,zb,zb,zb,zb,zj,zb,zb,zj,zb,zb,zb,zb,trivial⟩) ⟨ze (f_cut hM s [47] v1 v2 v3 e1 e2 e3 s4),
  e_un (za rfl) (za rfl) (fun W=>by rw [← e5];exact r_not W),
  e_fbv h6,
  ze (zT hTS v1 v7 v8 e7 e8),
  ze (zT hTS v2 v9 v10 e9 e10),
  e_fbv h11,
  e_fbv h12,
  ze (qq (v7,v9) v13 e13),
  e_fbv h14,
  ze (zcu (fun W h=>(hTS W h).1) (v7,v9) v15 e15),
  e_bin (za rfl) (za rfl) (za rfl) (fun W X Y=>by rw [← e16];exact r_seq W X Y),
  e_fbv h17,
  trivial⟩ mixed (by kernel_rfl))
theorem zgz {w0:World} (s:(List UInt8))(hM:LM w0) (hTS:LS w0) (v1:(List UInt8)) (v2:(List UInt8)) (v3:Bool) (v5:Bool) (v7:Raw) (v8:Bool) (v9:Raw) (v10:Bool) (v13:Bool) (v15:(List UInt8)) (v16:Bool) (e1:((Lib.cut s [47]).1)=v1) (e2:((Lib.cut s [47]).2.1)=v2) (e3:((Lib.cut s [47]).2.2)=v3) (e5:(!v3)=v5) (e7:(nz (vO (zn v1)))=v7) (e8:(okO (zn v1))=v8) (e9:(nz (vO (zn v2)))=v9) (e10:(okO (zn v2))=v10) (e13:(rrX (v7,v9).1 (v7,v9).2)=v13) (e15:(textR (v7,v9))=v15) (e16:(((v15:List UInt8) == s))=v16) (s4:(s:List UInt8).length<4294967281) (h6:v5=false) (h11:v8=true) (h12:v10=true) (h14:v13=true) (h17:v16=false):Fun (KN w0) Tryz.prog 86 [.o (.c (pS s))] (.t [.g [pV (.bool false),pV (.slice none 0 0),pV (.bool false),pV (.slice none 0 0)],.c (pV (.bool false))]):=
 zi (zl (F:=FL [pS s,pS v1,pS v2,pB v3,pB v5,pB v7.1,pD v7.2,pB v8,pB v9.1,pD v9.2,pB v10,pB v13,pS v15,pB v16] []) (C:=[(1000003,.call ⟨108,[yh 0,.o (.c (.k (.string ⟨#[47]⟩)))],[],.t [.c (.h 1),.c (.h 2),.c (.h 3)],[]⟩),
  (1000012,.un .not (yh 3) (yh 4)),
  (10004,.fb 4 false),
  (1000014,.call ⟨109,[yh 1],[],.t [.g [.h 5,.h 6],.c (.h 7)],[]⟩),
  (1000022,.call ⟨109,[yh 2],[],.t [.g [.h 8,.h 9],.c (.h 10)],[]⟩),
  (10007,.fb 7 true),
  (10010,.fb 10 true),
  (1000040,.call ⟨46,[.o (.g [.h 5,.h 6,.h 8,.h 9])],[],yh 11,[]⟩),
  (10011,.fb 11 true),
  (1000044,.call ⟨47,[.o (.g [.h 5,.h 6,.h 8,.h 9])],[],yh 12,[]⟩),
  (1000046,.bin .eql 9 (yh 12) (yh 0) (yh 13)),
  (10013,.fb 13 false)]) (k:=⟨86,[yh 0],[],.t [.g [.k (.bool false),.k (.slice none 0 0),.k (.bool false),.k (.slice none 0 0)],.c (.k (.bool false))],[]⟩) 0 (zf ⟨zb,zb,zb,zb,zb,zb,zj,zb,zb,zj,zb,zb,zb,zb,trivial⟩) ⟨ze (f_cut hM s [47] v1 v2 v3 e1 e2 e3 s4),
  e_un (za rfl) (za rfl) (fun W=>by rw [← e5];exact r_not W),
  e_fbv h6,
  ze (zT hTS v1 v7 v8 e7 e8),
  ze (zT hTS v2 v9 v10 e9 e10),
  e_fbv h11,
  e_fbv h12,
  ze (qq (v7,v9) v13 e13),
  e_fbv h14,
  ze (zcu (fun W h=>(hTS W h).1) (v7,v9) v15 e15),
  e_bin (za rfl) (za rfl) (za rfl) (fun W X Y=>by rw [← e16];exact r_seq W X Y),
  e_fbv h17,
  trivial⟩ mixed (by kernel_rfl))
theorem zgA {w0:World} (s:(List UInt8))(hM:LM w0) (hTS:LS w0) (v1:(List UInt8)) (v2:(List UInt8)) (v3:Bool) (v5:Bool) (v7:Raw) (v8:Bool) (v9:Raw) (v10:Bool) (v13:Bool) (e1:((Lib.cut s [47]).1)=v1) (e2:((Lib.cut s [47]).2.1)=v2) (e3:((Lib.cut s [47]).2.2)=v3) (e5:(!v3)=v5) (e7:(nz (vO (zn v1)))=v7) (e8:(okO (zn v1))=v8) (e9:(nz (vO (zn v2)))=v9) (e10:(okO (zn v2))=v10) (e13:(rrX (v7,v9).1 (v7,v9).2)=v13) (s4:(s:List UInt8).length<4294967281) (h6:v5=false) (h11:v8=true) (h12:v10=true) (h14:v13=false):Fun (KN w0) Tryz.prog 86 [.o (.c (pS s))] (.t [.g [pV (.bool false),pV (.slice none 0 0),pV (.bool false),pV (.slice none 0 0)],.c (pV (.bool false))]):=
 zi (zl (F:=FL [pS s,pS v1,pS v2,pB v3,pB v5,pB v7.1,pD v7.2,pB v8,pB v9.1,pD v9.2,pB v10,pB v13] []) (C:=[(1000003,.call ⟨108,[yh 0,.o (.c (.k (.string ⟨#[47]⟩)))],[],.t [.c (.h 1),.c (.h 2),.c (.h 3)],[]⟩),
  (1000012,.un .not (yh 3) (yh 4)),
  (10004,.fb 4 false),
  (1000014,.call ⟨109,[yh 1],[],.t [.g [.h 5,.h 6],.c (.h 7)],[]⟩),
  (1000022,.call ⟨109,[yh 2],[],.t [.g [.h 8,.h 9],.c (.h 10)],[]⟩),
  (10007,.fb 7 true),
  (10010,.fb 10 true),
  (1000040,.call ⟨46,[.o (.g [.h 5,.h 6,.h 8,.h 9])],[],yh 11,[]⟩),
  (10011,.fb 11 false)]) (k:=⟨86,[yh 0],[],.t [.g [.k (.bool false),.k (.slice none 0 0),.k (.bool false),.k (.slice none 0 0)],.c (.k (.bool false))],[]⟩) 0 (zf ⟨zb,zb,zb,zb,zb,zb,zj,zb,zb,zj,zb,zb,trivial⟩) ⟨ze (f_cut hM s [47] v1 v2 v3 e1 e2 e3 s4),
  e_un (za rfl) (za rfl) (fun W=>by rw [← e5];exact r_not W),
  e_fbv h6,
  ze (zT hTS v1 v7 v8 e7 e8),
  ze (zT hTS v2 v9 v10 e9 e10),
  e_fbv h11,
  e_fbv h12,
  ze (qq (v7,v9) v13 e13),
  e_fbv h14,
  trivial⟩ mixed (by kernel_rfl))
theorem zgB {w0:World} (s:(List UInt8))(hM:LM w0) (hTS:LS w0) (v1:(List UInt8)) (v2:(List UInt8)) (v3:Bool) (v5:Bool) (v7:Raw) (v8:Bool) (v9:Raw) (v10:Bool) (e1:((Lib.cut s [47]).1)=v1) (e2:((Lib.cut s [47]).2.1)=v2) (e3:((Lib.cut s [47]).2.2)=v3) (e5:(!v3)=v5) (e7:(nz (vO (zn v1)))=v7) (e8:(okO (zn v1))=v8) (e9:(nz (vO (zn v2)))=v9) (e10:(okO (zn v2))=v10) (s4:(s:List UInt8).length<4294967281) (h6:v5=false) (h11:v8=true) (h12:v10=false):Fun (KN w0) Tryz.prog 86 [.o (.c (pS s))] (.t [.g [pV (.bool false),pV (.slice none 0 0),pV (.bool false),pV (.slice none 0 0)],.c (pV (.bool false))]):=
 zi (zl (F:=FL [pS s,pS v1,pS v2,pB v3,pB v5,pB v7.1,pD v7.2,pB v8,pB v9.1,pD v9.2,pB v10] []) (C:=[(1000003,.call ⟨108,[yh 0,.o (.c (.k (.string ⟨#[47]⟩)))],[],.t [.c (.h 1),.c (.h 2),.c (.h 3)],[]⟩),
  (1000012,.un .not (yh 3) (yh 4)),
  (10004,.fb 4 false),
  (1000014,.call ⟨109,[yh 1],[],.t [.g [.h 5,.h 6],.c (.h 7)],[]⟩),
  (1000022,.call ⟨109,[yh 2],[],.t [.g [.h 8,.h 9],.c (.h 10)],[]⟩),
  (10007,.fb 7 true),
  (10010,.fb 10 false)]) (k:=⟨86,[yh 0],[],.t [.g [.k (.bool false),.k (.slice none 0 0),.k (.bool false),.k (.slice none 0 0)],.c (.k (.bool false))],[]⟩) 0 (zf ⟨zb,zb,zb,zb,zb,zb,zj,zb,zb,zj,zb,trivial⟩) ⟨ze (f_cut hM s [47] v1 v2 v3 e1 e2 e3 s4),
  e_un (za rfl) (za rfl) (fun W=>by rw [← e5];exact r_not W),
  e_fbv h6,
  ze (zT hTS v1 v7 v8 e7 e8),
  ze (zT hTS v2 v9 v10 e9 e10),
  e_fbv h11,
  e_fbv h12,
  trivial⟩ mixed (by kernel_rfl))
theorem zgC {w0:World} (s:(List UInt8))(hM:LM w0) (hTS:LS w0) (v1:(List UInt8)) (v2:(List UInt8)) (v3:Bool) (v5:Bool) (v7:Raw) (v8:Bool) (v9:Raw) (v10:Bool) (e1:((Lib.cut s [47]).1)=v1) (e2:((Lib.cut s [47]).2.1)=v2) (e3:((Lib.cut s [47]).2.2)=v3) (e5:(!v3)=v5) (e7:(nz (vO (zn v1)))=v7) (e8:(okO (zn v1))=v8) (e9:(nz (vO (zn v2)))=v9) (e10:(okO (zn v2))=v10) (s4:(s:List UInt8).length<4294967281) (h6:v5=false) (h11:v8=false):Fun (KN w0) Tryz.prog 86 [.o (.c (pS s))] (.t [.g [pV (.bool false),pV (.slice none 0 0),pV (.bool false),pV (.slice none 0 0)],.c (pV (.bool false))]):=
 zi (zl (F:=FL [pS s,pS v1,pS v2,pB v3,pB v5,pB v7.1,pD v7.2,pB v8,pB v9.1,pD v9.2,pB v10] []) (C:=[(1000003,.call ⟨108,[yh 0,.o (.c (.k (.string ⟨#[47]⟩)))],[],.t [.c (.h 1),.c (.h 2),.c (.h 3)],[]⟩),
  (1000012,.un .not (yh 3) (yh 4)),
  (10004,.fb 4 false),
  (1000014,.call ⟨109,[yh 1],[],.t [.g [.h 5,.h 6],.c (.h 7)],[]⟩),
  (1000022,.call ⟨109,[yh 2],[],.t [.g [.h 8,.h 9],.c (.h 10)],[]⟩),
  (10007,.fb 7 false)]) (k:=⟨86,[yh 0],[],.t [.g [.k (.bool false),.k (.slice none 0 0),.k (.bool false),.k (.slice none 0 0)],.c (.k (.bool false))],[]⟩) 0 (zf ⟨zb,zb,zb,zb,zb,zb,zj,zb,zb,zj,zb,trivial⟩) ⟨ze (f_cut hM s [47] v1 v2 v3 e1 e2 e3 s4),
  e_un (za rfl) (za rfl) (fun W=>by rw [← e5];exact r_not W),
  e_fbv h6,
  ze (zT hTS v1 v7 v8 e7 e8),
  ze (zT hTS v2 v9 v10 e9 e10),
  e_fbv h11,
  trivial⟩ mixed (by kernel_rfl))
theorem zch {w0:World} (hM:LM w0) (hTS:LS w0) (s:List UInt8) (r:RR) (o:Bool) (hr:parR s=r) (ho:okP s=o) (hl:s.length<4294967281):Fun (KN w0) Tryz.prog 86 [.o (.c (pS s))] (.t [.g (cN r.1++cN r.2),.c (pB o)]):=by
 obtain ⟨v1,e1⟩:∃v,((Lib.cut s [47]).1)=v:=⟨_,rfl⟩
 obtain ⟨v2,e2⟩:∃v,((Lib.cut s [47]).2.1)=v:=⟨_,rfl⟩
 obtain ⟨v3,e3⟩:∃v,((Lib.cut s [47]).2.2)=v:=⟨_,rfl⟩
 have s4:(s:List UInt8).length<4294967281:=by exact hl
 obtain ⟨v5,e5⟩:∃v,(!v3)=v:=⟨_,rfl⟩
 cases h6:v5 with
 | true =>
  obtain ⟨v7,e7⟩:∃v,(nz (vO (zn v1)))=v:=⟨_,rfl⟩
  obtain ⟨v8,e8⟩:∃v,(okO (zn v1))=v:=⟨_,rfl⟩
  obtain ⟨v9,e9⟩:∃v,(nz (vO (zn [49])))=v:=⟨_,rfl⟩
  obtain ⟨v10,e10⟩:∃v,(okO (zn [49]))=v:=⟨_,rfl⟩
  cases h11:v8 with
  | true =>
   cases h12:v10 with
   | true =>
    obtain ⟨v13,e13⟩:∃v,(rrX (v7,v9).1 (v7,v9).2)=v:=⟨_,rfl⟩
    cases h14:v13 with
    | true =>
     obtain ⟨v15,e15⟩:∃v,(textR (v7,v9))=v:=⟨_,rfl⟩
     obtain ⟨v16,e16⟩:∃v,(((v15:List UInt8) == s))=v:=⟨_,rfl⟩
     cases h17:v16 with
     | true =>
      refine Fun.imp (zgt s hM hTS v1 v2 v3 v5 v7 v8 v9 v10 v13 v15 v16 e1 e2 e3 e5 e7 e8 e9 e10 e13 e15 e16 s4 h6 h11 h12 h14 h17) (fun _ _ _ h=>h) (fun v W D h=>?_)
      have r0:r=(v7,v9):=by
       obtain ⟨c1,c2,c3,c4⟩:=zA s
       first | rw [← hr] | rw [← ho]
       subst_vars
       simp_all [parR,okP,rawP]
      have r1:o=true:=by
       obtain ⟨c1,c2,c3,c4⟩:=zA s
       first | rw [← hr] | rw [← ho]
       subst_vars
       simp_all [parR,okP,rawP]
      rw [r0,r1];exact h
     | false =>
      refine Fun.imp (zgu s hM hTS v1 v2 v3 v5 v7 v8 v9 v10 v13 v15 v16 e1 e2 e3 e5 e7 e8 e9 e10 e13 e15 e16 s4 h6 h11 h12 h14 h17) (fun _ _ _ h=>h) (fun v W D h=>?_)
      have r0:r=rq none:=by
       obtain ⟨c1,c2,c3,c4⟩:=zA s
       first | rw [← hr] | rw [← ho]
       subst_vars
       simp_all [parR,okP,rawP]
      have r1:o=false:=by
       obtain ⟨c1,c2,c3,c4⟩:=zA s
       first | rw [← hr] | rw [← ho]
       subst_vars
       simp_all [parR,okP,rawP]
      rw [r0,r1];exact zaL h
    | false =>
     refine Fun.imp (zgv s hM hTS v1 v2 v3 v5 v7 v8 v9 v10 v13 e1 e2 e3 e5 e7 e8 e9 e10 e13 s4 h6 h11 h12 h14) (fun _ _ _ h=>h) (fun v W D h=>?_)
     have r0:r=rq none:=by
      obtain ⟨c1,c2,c3,c4⟩:=zA s
      first | rw [← hr] | rw [← ho]
      subst_vars
      simp_all [parR,okP,rawP]
     have r1:o=false:=by
      obtain ⟨c1,c2,c3,c4⟩:=zA s
      first | rw [← hr] | rw [← ho]
      subst_vars
      simp_all [parR,okP,rawP]
     rw [r0,r1];exact zaL h
   | false =>
    refine Fun.imp (zgw s hM hTS v1 v2 v3 v5 v7 v8 v9 v10 e1 e2 e3 e5 e7 e8 e9 e10 s4 h6 h11 h12) (fun _ _ _ h=>h) (fun v W D h=>?_)
    have r0:r=rq none:=by
     obtain ⟨c1,c2,c3,c4⟩:=zA s
     first | rw [← hr] | rw [← ho]
     subst_vars
     simp_all [parR,okP,rawP]
    have r1:o=false:=by
     obtain ⟨c1,c2,c3,c4⟩:=zA s
     first | rw [← hr] | rw [← ho]
     subst_vars
     simp_all [parR,okP,rawP]
    rw [r0,r1];exact zaL h
  | false =>
   refine Fun.imp (zgx s hM hTS v1 v2 v3 v5 v7 v8 v9 v10 e1 e2 e3 e5 e7 e8 e9 e10 s4 h6 h11) (fun _ _ _ h=>h) (fun v W D h=>?_)
   have r0:r=rq none:=by
    obtain ⟨c1,c2,c3,c4⟩:=zA s
    first | rw [← hr] | rw [← ho]
    subst_vars
    simp_all [parR,okP,rawP]
   have r1:o=false:=by
    obtain ⟨c1,c2,c3,c4⟩:=zA s
    first | rw [← hr] | rw [← ho]
    subst_vars
    simp_all [parR,okP,rawP]
   rw [r0,r1];exact zaL h
 | false =>
  obtain ⟨v7,e7⟩:∃v,(nz (vO (zn v1)))=v:=⟨_,rfl⟩
  obtain ⟨v8,e8⟩:∃v,(okO (zn v1))=v:=⟨_,rfl⟩
  obtain ⟨v9,e9⟩:∃v,(nz (vO (zn v2)))=v:=⟨_,rfl⟩
  obtain ⟨v10,e10⟩:∃v,(okO (zn v2))=v:=⟨_,rfl⟩
  cases h11:v8 with
  | true =>
   cases h12:v10 with
   | true =>
    obtain ⟨v13,e13⟩:∃v,(rrX (v7,v9).1 (v7,v9).2)=v:=⟨_,rfl⟩
    cases h14:v13 with
    | true =>
     obtain ⟨v15,e15⟩:∃v,(textR (v7,v9))=v:=⟨_,rfl⟩
     obtain ⟨v16,e16⟩:∃v,(((v15:List UInt8) == s))=v:=⟨_,rfl⟩
     cases h17:v16 with
     | true =>
      refine Fun.imp (zgy s hM hTS v1 v2 v3 v5 v7 v8 v9 v10 v13 v15 v16 e1 e2 e3 e5 e7 e8 e9 e10 e13 e15 e16 s4 h6 h11 h12 h14 h17) (fun _ _ _ h=>h) (fun v W D h=>?_)
      have r0:r=(v7,v9):=by
       obtain ⟨c1,c2,c3,c4⟩:=zA s
       first | rw [← hr] | rw [← ho]
       subst_vars
       simp_all [parR,okP,rawP]
      have r1:o=true:=by
       obtain ⟨c1,c2,c3,c4⟩:=zA s
       first | rw [← hr] | rw [← ho]
       subst_vars
       simp_all [parR,okP,rawP]
      rw [r0,r1];exact h
     | false =>
      refine Fun.imp (zgz s hM hTS v1 v2 v3 v5 v7 v8 v9 v10 v13 v15 v16 e1 e2 e3 e5 e7 e8 e9 e10 e13 e15 e16 s4 h6 h11 h12 h14 h17) (fun _ _ _ h=>h) (fun v W D h=>?_)
      have r0:r=rq none:=by
       obtain ⟨c1,c2,c3,c4⟩:=zA s
       first | rw [← hr] | rw [← ho]
       subst_vars
       simp_all [parR,okP,rawP]
      have r1:o=false:=by
       obtain ⟨c1,c2,c3,c4⟩:=zA s
       first | rw [← hr] | rw [← ho]
       subst_vars
       simp_all [parR,okP,rawP]
      rw [r0,r1];exact zaL h
    | false =>
     refine Fun.imp (zgA s hM hTS v1 v2 v3 v5 v7 v8 v9 v10 v13 e1 e2 e3 e5 e7 e8 e9 e10 e13 s4 h6 h11 h12 h14) (fun _ _ _ h=>h) (fun v W D h=>?_)
     have r0:r=rq none:=by
      obtain ⟨c1,c2,c3,c4⟩:=zA s
      first | rw [← hr] | rw [← ho]
      subst_vars
      simp_all [parR,okP,rawP]
     have r1:o=false:=by
      obtain ⟨c1,c2,c3,c4⟩:=zA s
      first | rw [← hr] | rw [← ho]
      subst_vars
      simp_all [parR,okP,rawP]
     rw [r0,r1];exact zaL h
   | false =>
    refine Fun.imp (zgB s hM hTS v1 v2 v3 v5 v7 v8 v9 v10 e1 e2 e3 e5 e7 e8 e9 e10 s4 h6 h11 h12) (fun _ _ _ h=>h) (fun v W D h=>?_)
    have r0:r=rq none:=by
     obtain ⟨c1,c2,c3,c4⟩:=zA s
     first | rw [← hr] | rw [← ho]
     subst_vars
     simp_all [parR,okP,rawP]
    have r1:o=false:=by
     obtain ⟨c1,c2,c3,c4⟩:=zA s
     first | rw [← hr] | rw [← ho]
     subst_vars
     simp_all [parR,okP,rawP]
    rw [r0,r1];exact zaL h
  | false =>
   refine Fun.imp (zgC s hM hTS v1 v2 v3 v5 v7 v8 v9 v10 e1 e2 e3 e5 e7 e8 e9 e10 s4 h6 h11) (fun _ _ _ h=>h) (fun v W D h=>?_)
   have r0:r=rq none:=by
    obtain ⟨c1,c2,c3,c4⟩:=zA s
    first | rw [← hr] | rw [← ho]
    subst_vars
    simp_all [parR,okP,rawP]
   have r1:o=false:=by
    obtain ⟨c1,c2,c3,c4⟩:=zA s
    first | rw [← hr] | rw [← ho]
    subst_vars
    simp_all [parR,okP,rawP]
   rw [r0,r1];exact zaL h
structure rpar_T where
 i:Int
end Go.Proofs.YtjcegdldgjphiaaGreatDoor
namespace Go.Proofs.YtjcegdldgjphiaaGreatDoor
open Go.RowKit Go.Shelf
end Go.Proofs.YtjcegdldgjphiaaGreatDoor
