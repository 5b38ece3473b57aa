/-
  Merged: RtI, RtJ.
-/
import Derived.Test.YtjcegdldgjphiaaGreatDoorGpAO
import Derived.Test.YtjcegdldgjphiaaGreatDoorGpAI
import Derived.Lib.IndexBytes
set_option linter.unusedSimpArgs false
set_option linter.unusedVariables false
set_option maxRecDepth 100000
namespace Go.Proofs.YtjcegdldgjphiaaGreatDoor
open Go.RowKit Go.Shelf
def MaxT (W:World):Prop:=∃m:Int,W.cell? ⟨2,0,none⟩=some (.int .i64 m)
theorem oka2 {p q:PSh} {vs:List Value} {W:World} {D:Dat} (h:oka [p,q] vs W D):∃v u,vs=[v,u]∧p.ok v W D∧q.ok u W D:=by
 match vs,h with
 | [v,u],h=>exact ⟨v,u,rfl,h.1,h.2.1⟩
 | [],h=>exact h.elim
 | [_],h=>exact h.2.elim
 | _::_::_::_,h=>exact h.2.2.elim
abbrev LM (w0:World):Prop:=∀W,Below w0.heap.size w0 W→MaxT W
abbrev LS (w0:World):Prop:=∀W,Below w0.heap.size w0 W→PowT w0.heap.size W∧SynT w0.heap.size W
theorem f_cut {w0:World} (hM:LM w0) (s p a b:List UInt8) (o:Bool) (ha:(Lib.cut s p).1=a) (hb:(Lib.cut s p).2.1=b) (ho:(Lib.cut s p).2.2=o) (hl:s.length<4294967281):Fun (KN w0) Tryz.prog 108 [.o (.c (pS s)),.o (.c (pS p))] (.t [.c (pS a),.c (pS b),.c (pB o)]):=by
 subst ha;subst hb;subst ho
 intro W D vs hs hf
 obtain ⟨v,u,rfl,hv,hu⟩:=oka2 hs
 have e:v=.string (bs s):=hv
 have e2:u=.string (bs p):=hu
 subst e;subst e2
 obtain ⟨m,hm⟩:=hM W hf.bel
 refine (Tryz.strings_Cut (bs s) (bs p) m W hl hm).mono fun e W' hr=>?_
 obtain ⟨rfl,n,rfl⟩:=hr
 exact ⟨_,D,rfl,⟨_,rfl,rfl,rfl,rfl,trivial⟩,Kept.of hf ((Below.refl _ _).trans ⟨rfl,rfl,rfl,Nat.le_refl _,fun _ _=>rfl⟩)⟩
def zS (s:List UInt8):Nat:=s.findIdx (· == 47)
def zQ (s:List UInt8):List UInt8:=s.take (zS s)
def zP (s:List UInt8):List UInt8:=if zS s<s.length then s.drop (zS s+1) else [49]
theorem zhq (s:List UInt8):zS s≤s.length:=List.findIdx_le_length
theorem zeI:∀s:List UInt8,Lib.index s [47]=if zS s<s.length then (zS s:Int) else -1
 | []=>by simp [Lib.index,zS]
 | c::s=>by
  have ih:=zeI s
  unfold Lib.index zS
  rw [List.findIdx_cons]
  by_cases hc:c=47
  ·subst hc;simp [List.isPrefixOf]
  ·have h1:([47]:List UInt8).isPrefixOf (c::s)=false:=by simp [List.isPrefixOf];exact fun h=>hc h.symm
   have h2:(c == 47)=false:=by simp [hc]
   rw [h1,h2,ih]
   show (if _ then _ else _)=_
   simp only [cond_false,List.length_cons,Nat.add_lt_add_iff_right,Bool.false_eq_true,if_false]
   show _=if zS s<s.length then ((zS s+1:Nat):Int) else -1
   by_cases h:zS s<s.length
   ·rw [if_pos h,if_pos h,if_neg (by rw [beq_iff_eq];omega)];omega
   ·rw [if_neg h,if_neg h];try rfl
theorem zV (s:List UInt8):(Lib.cut s [47]).1=zQ s∧(Lib.cut s [47]).2.2=decide (zS s<s.length)∧((Lib.cut s [47]).2.2=true→(Lib.cut s [47]).2.1=zP s)∧((Lib.cut s [47]).2.2=false→zP s=[49]):=by
 unfold Lib.cut zQ zP
 rw [zeI]
 by_cases h:zS s<s.length
 ·rw [if_pos h,if_pos (by omega)];simp [h]
 ·have:=zhq s
  rw [if_neg h,if_neg (by decide)]
  have e:s.take (zS s)=s:=List.take_of_length_le (by omega)
  simp [h,e]
def rawP (s:List UInt8):RR:=(nz (vO (zp (zQ s))),nz (vO (zp (zP s))))
def okP (s:List UInt8):Bool:=okO (zp (zQ s)) && okO (zp (zP s)) && rrX (rawP s).1 (rawP s).2 && (textR (rawP s) == s)
def parR (s:List UInt8):RR:=if okP s=true then rawP s else rq none
abbrev zBr:List (Nat×Ent):=(1000003,.call ⟨108,[yh 0,.o (.c (.k (.string ⟨#[47]⟩)))],[],.t [.c (.h 1),.c (.h 2),.c (.h 3)],[]⟩)::(1000012,.un .not (yh 3) (yh 4))::[]
abbrev zBs:List (Nat×Ent):=(10004,.fb 4 true)::(1000015,.call ⟨109,[yh 1],[],.t [.g [.h 5,.h 6],.c (.h 7)],[]⟩)::(1000023,.call ⟨109,[.o (.c (.k (.string ⟨#[49]⟩)))],[],.t [.g [.h 8,.h 9],.c (.h 10)],[]⟩)::zBr
abbrev zBt:List (Nat×Ent):=(10007,.fb 7 true)::zBs
abbrev zBu:List (Nat×Ent):=(10010,.fb 10 true)::(1000041,.call ⟨46,[.o (.g [.h 5,.h 6,.h 8,.h 9])],[],yh 11,[]⟩)::zBt
abbrev zBv:List (Nat×Ent):=(10011,.fb 11 true)::(1000045,.call ⟨47,[.o (.g [.h 5,.h 6,.h 8,.h 9])],[],yh 12,[]⟩)::(1000047,.bin .eql 9 (yh 12) (yh 0) (yh 13))::zBu
abbrev zBJ:List (Nat×Ent):=(10013,.fb 13 true)::zBv
abbrev zBK:List (Nat×Ent):=(10013,.fb 13 false)::zBv
abbrev zBL:List (Nat×Ent):=(10011,.fb 11 false)::zBu
abbrev zBM:List (Nat×Ent):=(10010,.fb 10 false)::zBt
abbrev zBD:List (Nat×Ent):=(10007,.fb 7 false)::zBs
abbrev zBn:List (Nat×Ent):=(10004,.fb 4 false)::(1000014,.call ⟨109,[yh 1],[],.t [.g [.h 5,.h 6],.c (.h 7)],[]⟩)::(1000022,.call ⟨109,[yh 2],[],.t [.g [.h 8,.h 9],.c (.h 10)],[]⟩)::zBr
abbrev zBo:List (Nat×Ent):=(10007,.fb 7 true)::zBn
abbrev zBp:List (Nat×Ent):=(10010,.fb 10 true)::(1000040,.call ⟨46,[.o (.g [.h 5,.h 6,.h 8,.h 9])],[],yh 11,[]⟩)::zBo
abbrev zBq:List (Nat×Ent):=(10011,.fb 11 true)::(1000044,.call ⟨47,[.o (.g [.h 5,.h 6,.h 8,.h 9])],[],yh 12,[]⟩)::(1000046,.bin .eql 9 (yh 12) (yh 0) (yh 13))::zBp
abbrev zBE:List (Nat×Ent):=(10013,.fb 13 true)::zBq
abbrev zBF:List (Nat×Ent):=(10013,.fb 13 false)::zBq
abbrev zBG:List (Nat×Ent):=(10011,.fb 11 false)::zBp
abbrev zBH:List (Nat×Ent):=(10010,.fb 10 false)::zBo
abbrev zBI:List (Nat×Ent):=(10007,.fb 7 false)::zBn
theorem zgS {w0:World} (hM:LM w0) (hTS:LS w0) (s:List UInt8) (r:RR) (o:Bool) (hr:parR s=r) (ho:okP s=o) (hl:s.length<4294967281):Fun (KN w0) Tryz.prog 86 [.o (.c (pS s))] (.t [.g (cN r.1++cN r.2),.c (pB o)]):=by
 obtain ⟨v1,e1⟩:=LX ((Lib.cut s [47]).1)
 obtain ⟨v2,e2⟩:=LX ((Lib.cut s [47]).2.1)
 obtain ⟨v3,e3⟩:=LX ((Lib.cut s [47]).2.2)
 have s4:(s:List UInt8).length<4294967281:=by exact hl
 obtain ⟨v5,e5⟩:=LX (!v3)
 let A1:List Pred→List Pred:=fun t=>pS s::pS v1::pS v2::pB v3::pB v5::t
 have f1:LA (KN w0) A1:=fun t h=>⟨zc,zc,zc,zc,zc,h⟩
 have T1:LT (KN w0) Tryz.prog A1 zBr:=fun t=>⟨zh (f_cut hM s [47] v1 v2 v3 e1 e2 e3 s4),e_un (za rfl) (za rfl) (fun W=>by rw [← e5];exact r_not W),trivial⟩
 cases h6:v5 with
 | true =>
  obtain ⟨v7,e7⟩:=LX (nz (vO (zp v1)))
  obtain ⟨v8,e8⟩:=LX (okO (zp v1))
  obtain ⟨v9,e9⟩:=LX (nz (vO (zp [49])))
  obtain ⟨v10,e10⟩:=LX (okO (zp [49]))
  let A2:=fun t=>A1 (pB v7.1::pD v7.2::pB v8::pB v9.1::pD v9.2::pB v10::t)
  have f2:LA (KN w0) A2:=fun t h=>f1 _ ⟨zc,zm,zc,zc,zm,zc,h⟩
  have T2:LT (KN w0) Tryz.prog A2 zBs:=fun t=>⟨e_fbv h6,zh (qE hTS v1 v7 v8 e7 e8),zh (qE hTS [49] v9 v10 e9 e10),T1 _⟩
  cases h11:v8 with
  | true =>
   have T3:LT (KN w0) Tryz.prog A2 zBt:=fun t=>⟨e_fbv h11,T2 _⟩
   cases h12:v10 with
   | true =>
    obtain ⟨v13,e13⟩:=LX (rrX (v7,v9).1 (v7,v9).2)
    let A4:=fun t=>A2 (pB v13::t)
    have f4:LA (KN w0) A4:=fun t h=>f2 _ ⟨zc,h⟩
    have T4:LT (KN w0) Tryz.prog A4 zBu:=fun t=>⟨e_fbv h12,zh (zas (v7,v9) v13 e13),T3 _⟩
    cases h14:v13 with
    | true =>
     obtain ⟨v15,e15⟩:=LX (textR (v7,v9))
     obtain ⟨v16,e16⟩:=LX (((v15:List UInt8) == s))
     let A5:=fun t=>A4 (pS v15::pB v16::t)
     have f5:LA (KN w0) A5:=fun t h=>f4 _ ⟨zc,zc,h⟩
     have T5:LT (KN w0) Tryz.prog A5 zBv:=fun t=>⟨e_fbv h14,zh (zeC (fun W h=>(hTS W h).1) (v7,v9) v15 e15),e_bin (za rfl) (za rfl) (za rfl) (fun W X Y=>by rw [← e16];exact r_seq W X Y),T4 _⟩
     cases h17:v16 with
     | true =>
      have T6:LT (KN w0) Tryz.prog A5 zBJ:=fun t=>⟨e_fbv h17,T5 _⟩
      refine Fun.fin (r:=.t [.g [pB v7.1,pD v7.2,pB v9.1,pD v9.2],.c (pV (.bool true))]) (zq (zr (F:=FL (A5 []) []) (C:=zBJ) (k:=⟨86,[yh 0],[],.t [.g [.h 5,.h 6,.h 8,.h 9],.c (.k (.bool true))],[]⟩) 0 (zg (f5 [] trivial)) (T6 []) mixed (by kernel_rfl))) (fun v W D h=>?_)
      have r0:r=(v7,v9):=by
       obtain ⟨c1,c2,c3,c4⟩:=zV s
       first | rw [← hr] | rw [← ho]
       subst_vars
       simp_all [parR,okP,rawP]
      have r1:o=true:=by
       obtain ⟨c1,c2,c3,c4⟩:=zV s
       first | rw [← hr] | rw [← ho]
       subst_vars
       simp_all [parR,okP,rawP]
      rw [r0,r1];exact h
     | false =>
      have T7:LT (KN w0) Tryz.prog A5 zBK:=fun t=>⟨e_fbv h17,T5 _⟩
      refine Fun.fin (r:=.t [.g [pV (.bool false),pV (.slice none 0 0),pV (.bool false),pV (.slice none 0 0)],.c (pV (.bool false))]) (zq (zr (F:=FL (A5 []) []) (C:=zBK) (k:=⟨86,[yh 0],[],.t [.g [.k (.bool false),.k (.slice none 0 0),.k (.bool false),.k (.slice none 0 0)],.c (.k (.bool false))],[]⟩) 0 (zg (f5 [] trivial)) (T7 []) mixed (by kernel_rfl))) (fun v W D h=>?_)
      have r0:r=rq none:=by
       obtain ⟨c1,c2,c3,c4⟩:=zV s
       first | rw [← hr] | rw [← ho]
       subst_vars
       simp_all [parR,okP,rawP]
      have r1:o=false:=by
       obtain ⟨c1,c2,c3,c4⟩:=zV s
       first | rw [← hr] | rw [← ho]
       subst_vars
       simp_all [parR,okP,rawP]
      rw [r0,r1];exact zaj h
    | false =>
     have T8:LT (KN w0) Tryz.prog A4 zBL:=fun t=>⟨e_fbv h14,T4 _⟩
     refine Fun.fin (r:=.t [.g [pV (.bool false),pV (.slice none 0 0),pV (.bool false),pV (.slice none 0 0)],.c (pV (.bool false))]) (zq (zr (F:=FL (A4 []) []) (C:=zBL) (k:=⟨86,[yh 0],[],.t [.g [.k (.bool false),.k (.slice none 0 0),.k (.bool false),.k (.slice none 0 0)],.c (.k (.bool false))],[]⟩) 0 (zg (f4 [] trivial)) (T8 []) mixed (by kernel_rfl))) (fun v W D h=>?_)
     have r0:r=rq none:=by
      obtain ⟨c1,c2,c3,c4⟩:=zV s
      first | rw [← hr] | rw [← ho]
      subst_vars
      simp_all [parR,okP,rawP]
     have r1:o=false:=by
      obtain ⟨c1,c2,c3,c4⟩:=zV s
      first | rw [← hr] | rw [← ho]
      subst_vars
      simp_all [parR,okP,rawP]
     rw [r0,r1];exact zaj h
   | false =>
    have T9:LT (KN w0) Tryz.prog A2 zBM:=fun t=>⟨e_fbv h12,T3 _⟩
    refine Fun.fin (r:=.t [.g [pV (.bool false),pV (.slice none 0 0),pV (.bool false),pV (.slice none 0 0)],.c (pV (.bool false))]) (zq (zr (F:=FL (A2 []) []) (C:=zBM) (k:=⟨86,[yh 0],[],.t [.g [.k (.bool false),.k (.slice none 0 0),.k (.bool false),.k (.slice none 0 0)],.c (.k (.bool false))],[]⟩) 0 (zg (f2 [] trivial)) (T9 []) mixed (by kernel_rfl))) (fun v W D h=>?_)
    have r0:r=rq none:=by
     obtain ⟨c1,c2,c3,c4⟩:=zV s
     first | rw [← hr] | rw [← ho]
     subst_vars
     simp_all [parR,okP,rawP]
    have r1:o=false:=by
     obtain ⟨c1,c2,c3,c4⟩:=zV s
     first | rw [← hr] | rw [← ho]
     subst_vars
     simp_all [parR,okP,rawP]
    rw [r0,r1];exact zaj h
  | false =>
   have T10:LT (KN w0) Tryz.prog A2 zBD:=fun t=>⟨e_fbv h11,T2 _⟩
   refine Fun.fin (r:=.t [.g [pV (.bool false),pV (.slice none 0 0),pV (.bool false),pV (.slice none 0 0)],.c (pV (.bool false))]) (zq (zr (F:=FL (A2 []) []) (C:=zBD) (k:=⟨86,[yh 0],[],.t [.g [.k (.bool false),.k (.slice none 0 0),.k (.bool false),.k (.slice none 0 0)],.c (.k (.bool false))],[]⟩) 0 (zg (f2 [] trivial)) (T10 []) mixed (by kernel_rfl))) (fun v W D h=>?_)
   have r0:r=rq none:=by
    obtain ⟨c1,c2,c3,c4⟩:=zV s
    first | rw [← hr] | rw [← ho]
    subst_vars
    simp_all [parR,okP,rawP]
   have r1:o=false:=by
    obtain ⟨c1,c2,c3,c4⟩:=zV s
    first | rw [← hr] | rw [← ho]
    subst_vars
    simp_all [parR,okP,rawP]
   rw [r0,r1];exact zaj h
 | false =>
  obtain ⟨v7,e7⟩:=LX (nz (vO (zp v1)))
  obtain ⟨v8,e8⟩:=LX (okO (zp v1))
  obtain ⟨v9,e9⟩:=LX (nz (vO (zp v2)))
  obtain ⟨v10,e10⟩:=LX (okO (zp v2))
  let A11:=fun t=>A1 (pB v7.1::pD v7.2::pB v8::pB v9.1::pD v9.2::pB v10::t)
  have f11:LA (KN w0) A11:=fun t h=>f1 _ ⟨zc,zm,zc,zc,zm,zc,h⟩
  have T11:LT (KN w0) Tryz.prog A11 zBn:=fun t=>⟨e_fbv h6,zh (qE hTS v1 v7 v8 e7 e8),zh (qE hTS v2 v9 v10 e9 e10),T1 _⟩
  cases h11:v8 with
  | true =>
   have T12:LT (KN w0) Tryz.prog A11 zBo:=fun t=>⟨e_fbv h11,T11 _⟩
   cases h12:v10 with
   | true =>
    obtain ⟨v13,e13⟩:=LX (rrX (v7,v9).1 (v7,v9).2)
    let A13:=fun t=>A11 (pB v13::t)
    have f13:LA (KN w0) A13:=fun t h=>f11 _ ⟨zc,h⟩
    have T13:LT (KN w0) Tryz.prog A13 zBp:=fun t=>⟨e_fbv h12,zh (zas (v7,v9) v13 e13),T12 _⟩
    cases h14:v13 with
    | true =>
     obtain ⟨v15,e15⟩:=LX (textR (v7,v9))
     obtain ⟨v16,e16⟩:=LX (((v15:List UInt8) == s))
     let A14:=fun t=>A13 (pS v15::pB v16::t)
     have f14:LA (KN w0) A14:=fun t h=>f13 _ ⟨zc,zc,h⟩
     have T14:LT (KN w0) Tryz.prog A14 zBq:=fun t=>⟨e_fbv h14,zh (zeC (fun W h=>(hTS W h).1) (v7,v9) v15 e15),e_bin (za rfl) (za rfl) (za rfl) (fun W X Y=>by rw [← e16];exact r_seq W X Y),T13 _⟩
     cases h17:v16 with
     | true =>
      have T15:LT (KN w0) Tryz.prog A14 zBE:=fun t=>⟨e_fbv h17,T14 _⟩
      refine Fun.fin (r:=.t [.g [pB v7.1,pD v7.2,pB v9.1,pD v9.2],.c (pV (.bool true))]) (zq (zr (F:=FL (A14 []) []) (C:=zBE) (k:=⟨86,[yh 0],[],.t [.g [.h 5,.h 6,.h 8,.h 9],.c (.k (.bool true))],[]⟩) 0 (zg (f14 [] trivial)) (T15 []) mixed (by kernel_rfl))) (fun v W D h=>?_)
      have r0:r=(v7,v9):=by
       obtain ⟨c1,c2,c3,c4⟩:=zV s
       first | rw [← hr] | rw [← ho]
       subst_vars
       simp_all [parR,okP,rawP]
      have r1:o=true:=by
       obtain ⟨c1,c2,c3,c4⟩:=zV s
       first | rw [← hr] | rw [← ho]
       subst_vars
       simp_all [parR,okP,rawP]
      rw [r0,r1];exact h
     | false =>
      have T16:LT (KN w0) Tryz.prog A14 zBF:=fun t=>⟨e_fbv h17,T14 _⟩
      refine Fun.fin (r:=.t [.g [pV (.bool false),pV (.slice none 0 0),pV (.bool false),pV (.slice none 0 0)],.c (pV (.bool false))]) (zq (zr (F:=FL (A14 []) []) (C:=zBF) (k:=⟨86,[yh 0],[],.t [.g [.k (.bool false),.k (.slice none 0 0),.k (.bool false),.k (.slice none 0 0)],.c (.k (.bool false))],[]⟩) 0 (zg (f14 [] trivial)) (T16 []) mixed (by kernel_rfl))) (fun v W D h=>?_)
      have r0:r=rq none:=by
       obtain ⟨c1,c2,c3,c4⟩:=zV s
       first | rw [← hr] | rw [← ho]
       subst_vars
       simp_all [parR,okP,rawP]
      have r1:o=false:=by
       obtain ⟨c1,c2,c3,c4⟩:=zV s
       first | rw [← hr] | rw [← ho]
       subst_vars
       simp_all [parR,okP,rawP]
      rw [r0,r1];exact zaj h
    | false =>
     have T17:LT (KN w0) Tryz.prog A13 zBG:=fun t=>⟨e_fbv h14,T13 _⟩
     refine Fun.fin (r:=.t [.g [pV (.bool false),pV (.slice none 0 0),pV (.bool false),pV (.slice none 0 0)],.c (pV (.bool false))]) (zq (zr (F:=FL (A13 []) []) (C:=zBG) (k:=⟨86,[yh 0],[],.t [.g [.k (.bool false),.k (.slice none 0 0),.k (.bool false),.k (.slice none 0 0)],.c (.k (.bool false))],[]⟩) 0 (zg (f13 [] trivial)) (T17 []) mixed (by kernel_rfl))) (fun v W D h=>?_)
     have r0:r=rq none:=by
      obtain ⟨c1,c2,c3,c4⟩:=zV s
      first | rw [← hr] | rw [← ho]
      subst_vars
      simp_all [parR,okP,rawP]
     have r1:o=false:=by
      obtain ⟨c1,c2,c3,c4⟩:=zV s
      first | rw [← hr] | rw [← ho]
      subst_vars
      simp_all [parR,okP,rawP]
     rw [r0,r1];exact zaj h
   | false =>
    have T18:LT (KN w0) Tryz.prog A11 zBH:=fun t=>⟨e_fbv h12,T12 _⟩
    refine Fun.fin (r:=.t [.g [pV (.bool false),pV (.slice none 0 0),pV (.bool false),pV (.slice none 0 0)],.c (pV (.bool false))]) (zq (zr (F:=FL (A11 []) []) (C:=zBH) (k:=⟨86,[yh 0],[],.t [.g [.k (.bool false),.k (.slice none 0 0),.k (.bool false),.k (.slice none 0 0)],.c (.k (.bool false))],[]⟩) 0 (zg (f11 [] trivial)) (T18 []) mixed (by kernel_rfl))) (fun v W D h=>?_)
    have r0:r=rq none:=by
     obtain ⟨c1,c2,c3,c4⟩:=zV s
     first | rw [← hr] | rw [← ho]
     subst_vars
     simp_all [parR,okP,rawP]
    have r1:o=false:=by
     obtain ⟨c1,c2,c3,c4⟩:=zV s
     first | rw [← hr] | rw [← ho]
     subst_vars
     simp_all [parR,okP,rawP]
    rw [r0,r1];exact zaj h
  | false =>
   have T19:LT (KN w0) Tryz.prog A11 zBI:=fun t=>⟨e_fbv h11,T11 _⟩
   refine Fun.fin (r:=.t [.g [pV (.bool false),pV (.slice none 0 0),pV (.bool false),pV (.slice none 0 0)],.c (pV (.bool false))]) (zq (zr (F:=FL (A11 []) []) (C:=zBI) (k:=⟨86,[yh 0],[],.t [.g [.k (.bool false),.k (.slice none 0 0),.k (.bool false),.k (.slice none 0 0)],.c (.k (.bool false))],[]⟩) 0 (zg (f11 [] trivial)) (T19 []) mixed (by kernel_rfl))) (fun v W D h=>?_)
   have r0:r=rq none:=by
    obtain ⟨c1,c2,c3,c4⟩:=zV s
    first | rw [← hr] | rw [← ho]
    subst_vars
    simp_all [parR,okP,rawP]
   have r1:o=false:=by
    obtain ⟨c1,c2,c3,c4⟩:=zV s
    first | rw [← hr] | rw [← ho]
    subst_vars
    simp_all [parR,okP,rawP]
   rw [r0,r1];exact zaj h
theorem zge {s:List UInt8} {n:Nat} {b:UInt8} (h:s[n]?=some b) (hn:n≤zS s):if b=47 then zS s=n else n+1≤zS s:=by
 have hl:=(List.getElem?_eq_some_iff.1 h).1
 have he:=(List.getElem?_eq_some_iff.1 h).2
 split
 ·rename_i hb
  rcases Nat.lt_or_ge n (zS s) with h1 | h1
  ·have:=List.not_of_lt_findIdx h1
   rw [he,hb] at this;exact absurd this (by decide)
  ·omega
 ·rename_i hb
  rcases Nat.lt_or_ge n (zS s) with h1 | h1
  ·exact h1
  ·have e:zS s=n:=by omega
   have h2:zS s<s.length:=by omega
   have:=List.findIdx_getElem (w:=h2)
   have h3:(s[zS s]'h2 == 47)=true:=this
   simp only [e,he] at h3
   exact absurd (beq_iff_eq.1 h3) hb
structure rpar_T where
 i:Int
def zax:List Atom:=[.sl 0 (yh 0),.sl 2 (.o (.c (.p 0 0))),.sl 3 (.o (.c (.k (.bool false)))),.sl 4 (yh 1),.bx 0 32 [.k (.bool false),.k (.slice none 0 0),.k (.bool false),.k (.slice none 0 0)]]
def qr:LoopS:=⟨2,[.sl 0 (yh 0),.sl 2 (.o (.c (.p 0 0))),.sl 3 (.o (.c (.k (.bool false)))),.sl 4 (.o (.c (.k (.int .i64 0)))),.bx 0 32 [.k (.bool false),.k (.slice none 0 0),.k (.bool false),.k (.slice none 0 0)]],(.x 0),[.sl 0 (yh 0),.sl 2 (.o (.c (.p 0 0))),.sl 3 (.o (.c (.k (.bool false)))),.sl 4 (yh 1),.bx 0 32 [.k (.bool false),.k (.slice none 0 0),.k (.bool false),.k (.slice none 0 0)]]⟩
abbrev zzZ:List (Nat×Ent):=(1005002,.op (.len [9] 3) [yh 0] [] (yh 2))::(1005003,.bin .lss 3 (yh 1) (yh 2) (yh 3))::[]
abbrev zz0:List (Nat×Ent):=(10003,.fb 3 true)::(1005007,.op (.ix 9) [yh 0,yh 1] [] (yh 4))::(1005008,.bin .neq 5 (yh 4) (LF (.k (.int .u8 47))) (yh 5))::zzZ
abbrev zAr:List (Nat×Ent):=(10005,.fb 5 true)::(1005011,.bin .add 3 (yh 1) (LF (.k (.int .i64 1))) (yh 6))::zz0
abbrev zAs:List (Nat×Ent):=(10005,.fb 5 false)::zz0
abbrev zAt:List (Nat×Ent):=(10003,.fb 3 false)::zzZ
theorem zbZ {w0:World} (s:(List UInt8)) (k:Int) {F:Fact} (u0:F.c 0=pS s) (u1:F.c 1=pI k) (R:Frm) (hR:R.pm=⟨ntOf Tryz.prog 87,[],[]⟩) (hk:k=(zS s:Int)) (hl:s.length≤1000):zj (KN w0) Tryz.prog F R qr (lp Tryz.prog 87 0):=by
 refine zG (T:=rpar_T) (fun t=>FL [pS s,pI t.i] []) (fun ⟨i⟩=>∃n:Nat,i=(n:Int)∧n≤zS s) (fun ⟨i⟩=>(s.length - i).toNat) { i:=(0:Int) } zax ⟨0,rfl,by omega⟩ (LZ ⟨z_c (LU u0),z_c yy,z_c yy,z_c yy,z_b ⟨yy,yy,yy,yy,trivial⟩,trivial⟩) rfl fun t hJ=>?_
 obtain ⟨i⟩:=t
 dsimp only at hJ
 obtain ⟨n,hi,hn⟩:=hJ
 have hsl:=zhq s
 obtain ⟨v501,e501⟩:=LX (((s:List UInt8).length:Int))
 obtain ⟨v502,e502⟩:=LX (decide (i<v501))
 let A1:List Pred→List Pred:=fun t=>pS s::pI i::pI v501::pB v502::t
 have f1:LA (KN w0) A1:=fun t h=>⟨zc,zc,zc,zc,h⟩
 have T1:LT (KN w0) Tryz.prog A1 zzZ:=fun t=>⟨e_op1 (za rfl) (za rfl) (fun W=>by rw [← e501];exact zav (by kernel_rfl) W),e_bin (za rfl) (za rfl) (za rfl) (r_cmp (LO e502)),trivial⟩
 cases h503:v502 with
 | true =>
  obtain ⟨n504,b505,s506,s507⟩:∃(n504:Nat) (b505:UInt8),i=(n504:Int)∧(s:List UInt8)[n504]?=some b505:=by (have d:=LD e502 h503;have hlt:n<s.length:=(by omega);exact ⟨n,s[n],hi,List.getElem?_eq_getElem hlt⟩)
  obtain ⟨v508,e508⟩:=LX (((b505.toNat:Int) != (47:Int)))
  let A2:=fun t=>A1 (pV (.int .u8 (b505.toNat:Int))::pB v508::t)
  have f2:LA (KN w0) A2:=fun t h=>f1 _ ⟨zc,zc,h⟩
  have T2:LT (KN w0) Tryz.prog A2 zz0:=fun t=>⟨e_fbv h503,e_op2 (za rfl) (za rfl) (za rfl) (r_ix (by kernel_rfl) s506 s507),e_bin (za rfl) ze (za rfl) (r_cmp (LO e508)),T1 _⟩
  cases h509:v508 with
  | true =>
   obtain ⟨v510,e510⟩:=LX (IntKind.i64.wrap (i+(1:Int)))
   let A3:=fun t=>A2 (pI v510::t)
   have f3:LA (KN w0) A3:=fun t h=>f2 _ ⟨zc,h⟩
   have T3:LT (KN w0) Tryz.prog A3 zAr:=fun t=>⟨e_fbv h509,e_bin (za rfl) ze (za rfl) (r_ar (LO e510)),T2 _⟩
   refine .inr ⟨⟨v510⟩,?_,?_,goes (x:=.n) (y:=.n) (Fb:=FL (A3 []) []) (stb:=zax) (tl:=[.sl 0 (yh 0),.sl 2 (.o (.c (.p 0 0))),.sl 3 (.o (.c (.k (.bool false)))),.sl 4 (yh 6),.bx 0 32 [.k (.bool false),.k (.slice none 0 0),.k (.bool false),.k (.slice none 0 0)]]) (C:=zAr) (H:=.no) 5000 (LZ ⟨z_c yy,z_c yy,z_c yy,z_c yy,z_b ⟨yy,yy,yy,yy,trivial⟩,trivial⟩) (zg (f3 [] trivial)) (T3 []) mixed hR trivial (fun _ _ _ hs=>by cases hs) (by kernel_rfl) rfl (LZ ⟨z_c yy,z_c yy,z_c yy,z_c (fun β v W h=>(zd rfl β v W).2 h),z_b ⟨yy,yy,yy,yy,trivial⟩,trivial⟩)⟩
   all_goals (dsimp only at *;have d1:=LD e502 h503;have en:n504=n:=(by omega);subst en;have st:=zge s507 hn;have hb:¬ b505=47:=(fun hb=>by subst hb;rw [← e508] at h509;exact absurd h509 (by decide));rw [if_neg hb] at st;rw [wr64 (by omega)] at e510)
   ·show (s.length - v510:Int).toNat<(s.length - i:Int).toNat
    omega
   ·exact ⟨n504+1,by omega,st⟩
  | false =>
   have T4:LT (KN w0) Tryz.prog A2 zAs:=fun t=>⟨e_fbv h509,T2 _⟩
   have hq:((i)=k)∧True:=by
    refine ⟨?_,trivial⟩
    try dsimp only at *
    have d1:=LD e502 h503
    have en:n504=n:=by omega
    subst en
    have st:=zge s507 hn
    have hb:b505=47:=by
     rw [← e508] at h509
     have h9:((b505.toNat:Int) == 47)=true:=by simpa [bne] using h509
     have h8:=beq_iff_eq.1 h9
     exact UInt8.toNat_inj.1 (by show b505.toNat=47;omega)
    rw [if_pos hb] at st
    omega
   obtain ⟨q0,-⟩:=hq
   exact .inl (goes (x:=(.x 0)) (y:=(.x 0)) (Fb:=FL (A2 []) []) (stb:=zax) (tl:=[.sl 0 (yh 0),.sl 2 (.o (.c (.p 0 0))),.sl 3 (.o (.c (.k (.bool false)))),.sl 4 (yh 1),.bx 0 32 [.k (.bool false),.k (.slice none 0 0),.k (.bool false),.k (.slice none 0 0)]]) (C:=zAs) (H:=.no) 5000 (LZ ⟨z_c yy,z_c yy,z_c yy,z_c yy,z_b ⟨yy,yy,yy,yy,trivial⟩,trivial⟩) (zg (f2 [] trivial)) (T4 []) mixed hR trivial (fun _ _ _ hs=>by cases hs) (by kernel_rfl) rfl (LZ ⟨z_c (LV u0),z_c yy,z_c yy,z_c (fun β v W h=>(zd u1 β v W).2 (by rw [← q0];exact h)),z_b ⟨yy,yy,yy,yy,trivial⟩,trivial⟩))
 | false =>
  have T5:LT (KN w0) Tryz.prog A1 zAt:=fun t=>⟨e_fbv h503,T1 _⟩
  have hq:((i)=k)∧True:=by
   refine ⟨?_,trivial⟩
   try dsimp only at *
   have d1:=LE e502 h503
   omega
  obtain ⟨q0,-⟩:=hq
  exact .inl (goes (x:=(.x 0)) (y:=(.x 0)) (Fb:=FL (A1 []) []) (stb:=zax) (tl:=[.sl 0 (yh 0),.sl 2 (.o (.c (.p 0 0))),.sl 3 (.o (.c (.k (.bool false)))),.sl 4 (yh 1),.bx 0 32 [.k (.bool false),.k (.slice none 0 0),.k (.bool false),.k (.slice none 0 0)]]) (C:=zAt) (H:=.no) 5000 (LZ ⟨z_c yy,z_c yy,z_c yy,z_c yy,z_b ⟨yy,yy,yy,yy,trivial⟩,trivial⟩) (zg (f1 [] trivial)) (T5 []) mixed hR trivial (fun _ _ _ hs=>by cases hs) (by kernel_rfl) rfl (LZ ⟨z_c (LV u0),z_c yy,z_c yy,z_c (fun β v W h=>(zd u1 β v W).2 (by rw [← q0];exact h)),z_b ⟨yy,yy,yy,yy,trivial⟩,trivial⟩))
theorem qj:zp [49]=some 1:=by decide +kernel
theorem qV:okP []=false:=by decide +kernel
theorem zM {x:RR} {s:List UInt8} (h:textR x=s) (h2:s≠[]):rrX x.1 x.2=true:=by
 unfold textR at h
 split at h
 ·assumption
 ·exact absurd h.symm h2
abbrev zwD:List (Nat×Ent):=(1001003,.call ⟨77,[.o (.c (.k (.int .i64 1)))],[],.o (.g [.h 2,.h 3]),[]⟩)::(1001009,.op (.len [9] 3) [yh 0] [] (yh 4))::(1001010,.bin .lss 3 (yh 1) (yh 4) (yh 5))::[]
abbrev zwE:List (Nat×Ent):=(10005,.fb 5 true)::(1001013,.bin .add 3 (yh 1) (LF (.k (.int .i64 1))) (yh 6))::(1001014,.op (.sc 9 true false false) [yh 0,yh 6] [] (yh 7))::(1001015,.call ⟨110,[yh 7],[],.t [.g [.h 8,.h 9],.c (.h 10)],[]⟩)::(1001023,.op (.sc 9 false true false) [yh 0,yh 1] [] (yh 11))::(1001024,.call ⟨110,[yh 11],[],.t [.g [.h 12,.h 13],.c (.h 14)],[]⟩)::(1001037,.un .not (yh 10) (yh 15))::zwD
abbrev zxs:List (Nat×Ent):=(10015,.fb 15 true)::zwE
abbrev zwF:List (Nat×Ent):=(10015,.fb 15 false)::(1001040,.un .not (yh 14) (yh 16))::zwE
abbrev zxt:List (Nat×Ent):=(10016,.fb 16 true)::zwF
abbrev zwG:List (Nat×Ent):=(10016,.fb 16 false)::(1001044,.bin .eql 9 (yh 0) (LF (.k (.string ⟨#[]⟩))) (yh 17))::zwF
abbrev zxu:List (Nat×Ent):=(10017,.fb 17 true)::zwG
abbrev zwH:List (Nat×Ent):=(10017,.fb 17 false)::(1001048,.call ⟨49,[.o (.g [.h 12,.h 13,.h 8,.h 9])],[],yh 18,[]⟩)::(1001050,.bin .neq 9 (yh 18) (yh 0) (yh 19))::zwG
abbrev zxv:List (Nat×Ent):=(10019,.fb 19 true)::zwH
abbrev zwU:List (Nat×Ent):=(10019,.fb 19 false)::zwH
abbrev zwt:List (Nat×Ent):=(10005,.fb 5 false)::(1001013,.op (.sc 9 false true false) [yh 0,yh 1] [] (yh 6))::(1001014,.call ⟨110,[yh 6],[],.t [.g [.h 7,.h 8],.c (.h 9)],[]⟩)::(1001030,.un .not (yh 9) (yh 10))::zwD
abbrev zwV:List (Nat×Ent):=(10010,.fb 10 true)::zwt
abbrev zwu:List (Nat×Ent):=(10010,.fb 10 false)::(1001034,.bin .eql 9 (yh 0) (LF (.k (.string ⟨#[]⟩))) (yh 11))::zwt
abbrev zwW:List (Nat×Ent):=(10011,.fb 11 true)::zwu
abbrev zwv:List (Nat×Ent):=(10011,.fb 11 false)::(1001038,.call ⟨49,[.o (.g [.h 7,.h 8,.h 2,.h 3])],[],yh 12,[]⟩)::(1001040,.bin .neq 9 (yh 12) (yh 0) (yh 13))::zwu
abbrev zwX:List (Nat×Ent):=(10013,.fb 13 true)::zwv
abbrev zwY:List (Nat×Ent):=(10013,.fb 13 false)::zwv
theorem zcP {w0:World} (s:List UInt8) (r:RR) (o:Bool) (hr:parR s=r) (ho:okP s=o) (hl:s.length≤1000):Fun (KN w0) Tryz.prog 87 [.o (.c (pS s))] (.t [.g (cN r.1++cN r.2),.c (pB o)]):=by
 have hs:=zhq s
 obtain ⟨k,hO_rpar⟩:∃(k:Int),k=(zS s:Int):=⟨_,rfl⟩
 obtain ⟨v1,e1⟩:=LX (nz (1:Int))
 have s2:-9223372036854775808≤(1:Int):=by decide
 have s3:(1:Int)<9223372036854775808:=by decide
 obtain ⟨v4,e4⟩:=LX (((s:List UInt8).length:Int))
 obtain ⟨v5,e5⟩:=LX (decide (k<v4))
 let A1:List Pred→List Pred:=fun t=>pS s::pI k::pB v1.1::pD v1.2::pI v4::pB v5::t
 have f1:LA (KN w0) A1:=fun t h=>⟨zc,zc,zc,zm,zc,zc,h⟩
 have T1:LT (KN w0) Tryz.prog A1 zwD:=fun t=>⟨zh (qN (1:Int) v1 e1 s2 s3),e_op1 (za rfl) (za rfl) (fun W=>by rw [← e4];exact zav (by kernel_rfl) W),e_bin (za rfl) (za rfl) (za rfl) (r_cmp (LO e5)),trivial⟩
 cases h6:v5 with
 | true =>
  obtain ⟨v7,e7⟩:=LX (IntKind.i64.wrap (k+(1:Int)))
  obtain ⟨n8,s9⟩:∃(n8:Nat),v7=(n8:Int):=by (have d:=LD e5 h6;refine ⟨zS s+1,?_⟩;rw [← e7,wr64 (by omega)];omega)
  obtain ⟨v10,e10⟩:=LX ((s:List UInt8).drop n8)
  have s11:n8≤(s:List UInt8).length:=by (have d:=LD e5 h6;rw [wr64 (by omega)] at e7;omega)
  obtain ⟨v12,e12⟩:=LX (nz (vO (zp v10)))
  obtain ⟨v13,e13⟩:=LX (okO (zp v10))
  have s14:(v10:List UInt8).length≤1000:=by (rw [← e10];simp only [List.length_drop,List.length_take];omega)
  obtain ⟨n15,s16⟩:∃(n15:Nat),k=(n15:Int):=by exact ⟨zS s,hO_rpar⟩
  obtain ⟨v17,e17⟩:=LX ((s:List UInt8).take n15)
  have s18:n15≤(s:List UInt8).length:=by omega
  obtain ⟨v19,e19⟩:=LX (nz (vO (zp v17)))
  obtain ⟨v20,e20⟩:=LX (okO (zp v17))
  have s21:(v17:List UInt8).length≤1000:=by (rw [← e17];simp only [List.length_drop,List.length_take];omega)
  obtain ⟨v22,e22⟩:=LX (!v13)
  let A2:=fun t=>A1 (pI v7::pS v10::pB v12.1::pD v12.2::pB v13::pS v17::pB v19.1::pD v19.2::pB v20::pB v22::t)
  have f2:LA (KN w0) A2:=fun t h=>f1 _ ⟨zc,zc,zc,zm,zc,zc,zc,zm,zc,zc,h⟩
  have T2:LT (KN w0) Tryz.prog A2 zwE:=fun t=>⟨e_fbv h6,e_bin (za rfl) ze (za rfl) (r_ar (LO e7)),e_op2 (za rfl) (za rfl) (za rfl) (fun W=>by rw [← e10];exact zdh (by kernel_rfl) s9 s11 W),zh (qh v10 v12 v13 e12 e13 s14),e_op2 (za rfl) (za rfl) (za rfl) (fun W=>by rw [← e17];exact zcf (by kernel_rfl) s16 s18 W),zh (qh v17 v19 v20 e19 e20 s21),e_un (za rfl) (za rfl) (fun W=>by rw [← e22];exact r_not W),T1 _⟩
  cases h23:v22 with
  | true =>
   have T3:LT (KN w0) Tryz.prog A2 zxs:=fun t=>⟨e_fbv h23,T2 _⟩
   have L_rpar:∀R:Frm,R.pm=⟨ntOf Tryz.prog 87,[],[]⟩→zj (KN w0) Tryz.prog (FL (A2 []) []) R qr (lp Tryz.prog 87 0):=fun R hR=>zbZ s  k rfl rfl R hR hO_rpar hl
   refine Fun.fin (r:=.t [.g [pV (.bool false),pV (.slice none 0 0),pV (.bool false),pV (.slice none 0 0)],.c (pV (.bool false))]) (zq (zN (F:=FL (A2 []) []) (C:=zxs) (k:=⟨87,[yh 0],[],.t [.g [.k (.bool false),.k (.slice none 0 0),.k (.bool false),.k (.slice none 0 0)],.c (.k (.bool false))],[]⟩) ⟨[qr],[],0⟩ [] 0 (zg (f2 [] trivial)) (T3 []) mixed trivial (fun R hR p hp s hs=>by
    have hl:zD (zR Tryz.prog 87)=[(2,lp Tryz.prog 87 0)]:=by kernel_rfl
    rw [hl] at hp
    simp only [List.mem_cons,List.not_mem_nil,or_false] at hp
    rcases hp with rfl
    ·have e:s=qr:=(Option.some.inj hs).symm
     subst e;exact L_rpar R hR) (by kernel_rfl))) (fun v W D h=>?_)
   have r0:r=rq none:=by
    have d:=LD e5 h6
    have hA:zQ s=v17:=by rw [← e17];unfold zQ;congr 1;omega
    rw [wr64 (by omega)] at e7
    have hB:zP s=v10:=by rw [← e10];unfold zP;rw [if_pos (by omega)];congr 1;omega
    have ht:=@zM (v19,v12) s
    have hnil:=qV
    clear e7 e10 e17 d s9 s11 s14 s16 s18 s21 e4 e5 h6 s2 s3 e1 hO_rpar hs hl
    first | rw [← hr] | rw [← ho]
    subst_vars
    simp_all [parR,okP,rawP]
   have r1:o=false:=by
    have d:=LD e5 h6
    have hA:zQ s=v17:=by rw [← e17];unfold zQ;congr 1;omega
    rw [wr64 (by omega)] at e7
    have hB:zP s=v10:=by rw [← e10];unfold zP;rw [if_pos (by omega)];congr 1;omega
    have ht:=@zM (v19,v12) s
    have hnil:=qV
    clear e7 e10 e17 d s9 s11 s14 s16 s18 s21 e4 e5 h6 s2 s3 e1 hO_rpar hs hl
    first | rw [← hr] | rw [← ho]
    subst_vars
    simp_all [parR,okP,rawP]
   rw [r0,r1];exact zaj h
  | false =>
   obtain ⟨v24,e24⟩:=LX (!v20)
   let A4:=fun t=>A2 (pB v24::t)
   have f4:LA (KN w0) A4:=fun t h=>f2 _ ⟨zc,h⟩
   have T4:LT (KN w0) Tryz.prog A4 zwF:=fun t=>⟨e_fbv h23,e_un (za rfl) (za rfl) (fun W=>by rw [← e24];exact r_not W),T2 _⟩
   cases h25:v24 with
   | true =>
    have T5:LT (KN w0) Tryz.prog A4 zxt:=fun t=>⟨e_fbv h25,T4 _⟩
    have L_rpar:∀R:Frm,R.pm=⟨ntOf Tryz.prog 87,[],[]⟩→zj (KN w0) Tryz.prog (FL (A4 []) []) R qr (lp Tryz.prog 87 0):=fun R hR=>zbZ s  k rfl rfl R hR hO_rpar hl
    refine Fun.fin (r:=.t [.g [pV (.bool false),pV (.slice none 0 0),pV (.bool false),pV (.slice none 0 0)],.c (pV (.bool false))]) (zq (zN (F:=FL (A4 []) []) (C:=zxt) (k:=⟨87,[yh 0],[],.t [.g [.k (.bool false),.k (.slice none 0 0),.k (.bool false),.k (.slice none 0 0)],.c (.k (.bool false))],[]⟩) ⟨[qr],[],0⟩ [] 0 (zg (f4 [] trivial)) (T5 []) mixed trivial (fun R hR p hp s hs=>by
     have hl:zD (zR Tryz.prog 87)=[(2,lp Tryz.prog 87 0)]:=by kernel_rfl
     rw [hl] at hp
     simp only [List.mem_cons,List.not_mem_nil,or_false] at hp
     rcases hp with rfl
     ·have e:s=qr:=(Option.some.inj hs).symm
      subst e;exact L_rpar R hR) (by kernel_rfl))) (fun v W D h=>?_)
    have r0:r=rq none:=by
     have d:=LD e5 h6
     have hA:zQ s=v17:=by rw [← e17];unfold zQ;congr 1;omega
     rw [wr64 (by omega)] at e7
     have hB:zP s=v10:=by rw [← e10];unfold zP;rw [if_pos (by omega)];congr 1;omega
     have ht:=@zM (v19,v12) s
     have hnil:=qV
     clear e7 e10 e17 d s9 s11 s14 s16 s18 s21 e4 e5 h6 s2 s3 e1 hO_rpar hs hl
     first | rw [← hr] | rw [← ho]
     subst_vars
     simp_all [parR,okP,rawP]
    have r1:o=false:=by
     have d:=LD e5 h6
     have hA:zQ s=v17:=by rw [← e17];unfold zQ;congr 1;omega
     rw [wr64 (by omega)] at e7
     have hB:zP s=v10:=by rw [← e10];unfold zP;rw [if_pos (by omega)];congr 1;omega
     have ht:=@zM (v19,v12) s
     have hnil:=qV
     clear e7 e10 e17 d s9 s11 s14 s16 s18 s21 e4 e5 h6 s2 s3 e1 hO_rpar hs hl
     first | rw [← hr] | rw [← ho]
     subst_vars
     simp_all [parR,okP,rawP]
    rw [r0,r1];exact zaj h
   | false =>
    obtain ⟨v26,e26⟩:=LX (((s:List UInt8) == []))
    let A6:=fun t=>A4 (pB v26::t)
    have f6:LA (KN w0) A6:=fun t h=>f4 _ ⟨zc,h⟩
    have T6:LT (KN w0) Tryz.prog A6 zwG:=fun t=>⟨e_fbv h25,e_bin (za rfl) ze (za rfl) (fun W X Y=>by rw [← e26];exact r_seq W X Y),T4 _⟩
    cases h27:v26 with
    | true =>
     have T7:LT (KN w0) Tryz.prog A6 zxu:=fun t=>⟨e_fbv h27,T6 _⟩
     have L_rpar:∀R:Frm,R.pm=⟨ntOf Tryz.prog 87,[],[]⟩→zj (KN w0) Tryz.prog (FL (A6 []) []) R qr (lp Tryz.prog 87 0):=fun R hR=>zbZ s  k rfl rfl R hR hO_rpar hl
     refine Fun.fin (r:=.t [.g [pV (.bool false),pV (.slice none 0 0),pV (.bool false),pV (.slice none 0 0)],.c (pV (.bool false))]) (zq (zN (F:=FL (A6 []) []) (C:=zxu) (k:=⟨87,[yh 0],[],.t [.g [.k (.bool false),.k (.slice none 0 0),.k (.bool false),.k (.slice none 0 0)],.c (.k (.bool false))],[]⟩) ⟨[qr],[],0⟩ [] 0 (zg (f6 [] trivial)) (T7 []) mixed trivial (fun R hR p hp s hs=>by
      have hl:zD (zR Tryz.prog 87)=[(2,lp Tryz.prog 87 0)]:=by kernel_rfl
      rw [hl] at hp
      simp only [List.mem_cons,List.not_mem_nil,or_false] at hp
      rcases hp with rfl
      ·have e:s=qr:=(Option.some.inj hs).symm
       subst e;exact L_rpar R hR) (by kernel_rfl))) (fun v W D h=>?_)
     have r0:r=rq none:=by
      have d:=LD e5 h6
      have hA:zQ s=v17:=by rw [← e17];unfold zQ;congr 1;omega
      rw [wr64 (by omega)] at e7
      have hB:zP s=v10:=by rw [← e10];unfold zP;rw [if_pos (by omega)];congr 1;omega
      have ht:=@zM (v19,v12) s
      have hnil:=qV
      clear e7 e10 e17 d s9 s11 s14 s16 s18 s21 e4 e5 h6 s2 s3 e1 hO_rpar hs hl
      first | rw [← hr] | rw [← ho]
      subst_vars
      simp_all [parR,okP,rawP]
     have r1:o=false:=by
      have d:=LD e5 h6
      have hA:zQ s=v17:=by rw [← e17];unfold zQ;congr 1;omega
      rw [wr64 (by omega)] at e7
      have hB:zP s=v10:=by rw [← e10];unfold zP;rw [if_pos (by omega)];congr 1;omega
      have ht:=@zM (v19,v12) s
      have hnil:=qV
      clear e7 e10 e17 d s9 s11 s14 s16 s18 s21 e4 e5 h6 s2 s3 e1 hO_rpar hs hl
      first | rw [← hr] | rw [← ho]
      subst_vars
      simp_all [parR,okP,rawP]
     rw [r0,r1];exact zaj h
    | false =>
     obtain ⟨v28,e28⟩:=LX (textR (v19,v12))
     obtain ⟨v29,e29⟩:=LX (!((v28:List UInt8) == s))
     let A8:=fun t=>A6 (pS v28::pB v29::t)
     have f8:LA (KN w0) A8:=fun t h=>f6 _ ⟨zc,zc,h⟩
     have T8:LT (KN w0) Tryz.prog A8 zwH:=fun t=>⟨e_fbv h27,zh (zbv (v19,v12) v28 e28),e_bin (za rfl) (za rfl) (za rfl) (fun W X Y=>by rw [← e29];exact r_sne W X Y),T6 _⟩
     cases h30:v29 with
     | true =>
      have T9:LT (KN w0) Tryz.prog A8 zxv:=fun t=>⟨e_fbv h30,T8 _⟩
      have L_rpar:∀R:Frm,R.pm=⟨ntOf Tryz.prog 87,[],[]⟩→zj (KN w0) Tryz.prog (FL (A8 []) []) R qr (lp Tryz.prog 87 0):=fun R hR=>zbZ s  k rfl rfl R hR hO_rpar hl
      refine Fun.fin (r:=.t [.g [pV (.bool false),pV (.slice none 0 0),pV (.bool false),pV (.slice none 0 0)],.c (pV (.bool false))]) (zq (zN (F:=FL (A8 []) []) (C:=zxv) (k:=⟨87,[yh 0],[],.t [.g [.k (.bool false),.k (.slice none 0 0),.k (.bool false),.k (.slice none 0 0)],.c (.k (.bool false))],[]⟩) ⟨[qr],[],0⟩ [] 0 (zg (f8 [] trivial)) (T9 []) mixed trivial (fun R hR p hp s hs=>by
       have hl:zD (zR Tryz.prog 87)=[(2,lp Tryz.prog 87 0)]:=by kernel_rfl
       rw [hl] at hp
       simp only [List.mem_cons,List.not_mem_nil,or_false] at hp
       rcases hp with rfl
       ·have e:s=qr:=(Option.some.inj hs).symm
        subst e;exact L_rpar R hR) (by kernel_rfl))) (fun v W D h=>?_)
      have r0:r=rq none:=by
       have d:=LD e5 h6
       have hA:zQ s=v17:=by rw [← e17];unfold zQ;congr 1;omega
       rw [wr64 (by omega)] at e7
       have hB:zP s=v10:=by rw [← e10];unfold zP;rw [if_pos (by omega)];congr 1;omega
       have ht:=@zM (v19,v12) s
       have hnil:=qV
       clear e7 e10 e17 d s9 s11 s14 s16 s18 s21 e4 e5 h6 s2 s3 e1 hO_rpar hs hl
       first | rw [← hr] | rw [← ho]
       subst_vars
       simp_all [parR,okP,rawP]
      have r1:o=false:=by
       have d:=LD e5 h6
       have hA:zQ s=v17:=by rw [← e17];unfold zQ;congr 1;omega
       rw [wr64 (by omega)] at e7
       have hB:zP s=v10:=by rw [← e10];unfold zP;rw [if_pos (by omega)];congr 1;omega
       have ht:=@zM (v19,v12) s
       have hnil:=qV
       clear e7 e10 e17 d s9 s11 s14 s16 s18 s21 e4 e5 h6 s2 s3 e1 hO_rpar hs hl
       first | rw [← hr] | rw [← ho]
       subst_vars
       simp_all [parR,okP,rawP]
      rw [r0,r1];exact zaj h
     | false =>
      have T10:LT (KN w0) Tryz.prog A8 zwU:=fun t=>⟨e_fbv h30,T8 _⟩
      have L_rpar:∀R:Frm,R.pm=⟨ntOf Tryz.prog 87,[],[]⟩→zj (KN w0) Tryz.prog (FL (A8 []) []) R qr (lp Tryz.prog 87 0):=fun R hR=>zbZ s  k rfl rfl R hR hO_rpar hl
      refine Fun.fin (r:=.t [.g [pB v19.1,pD v19.2,pB v12.1,pD v12.2],.c (pV (.bool true))]) (zq (zN (F:=FL (A8 []) []) (C:=zwU) (k:=⟨87,[yh 0],[],.t [.g [.h 12,.h 13,.h 8,.h 9],.c (.k (.bool true))],[]⟩) ⟨[qr],[],0⟩ [] 0 (zg (f8 [] trivial)) (T10 []) mixed trivial (fun R hR p hp s hs=>by
       have hl:zD (zR Tryz.prog 87)=[(2,lp Tryz.prog 87 0)]:=by kernel_rfl
       rw [hl] at hp
       simp only [List.mem_cons,List.not_mem_nil,or_false] at hp
       rcases hp with rfl
       ·have e:s=qr:=(Option.some.inj hs).symm
        subst e;exact L_rpar R hR) (by kernel_rfl))) (fun v W D h=>?_)
      have r0:r=(v19,v12):=by
       have d:=LD e5 h6
       have hA:zQ s=v17:=by rw [← e17];unfold zQ;congr 1;omega
       rw [wr64 (by omega)] at e7
       have hB:zP s=v10:=by rw [← e10];unfold zP;rw [if_pos (by omega)];congr 1;omega
       have ht:=@zM (v19,v12) s
       have hnil:=qV
       clear e7 e10 e17 d s9 s11 s14 s16 s18 s21 e4 e5 h6 s2 s3 e1 hO_rpar hs hl
       first | rw [← hr] | rw [← ho]
       subst_vars
       simp_all [parR,okP,rawP]
      have r1:o=true:=by
       have d:=LD e5 h6
       have hA:zQ s=v17:=by rw [← e17];unfold zQ;congr 1;omega
       rw [wr64 (by omega)] at e7
       have hB:zP s=v10:=by rw [← e10];unfold zP;rw [if_pos (by omega)];congr 1;omega
       have ht:=@zM (v19,v12) s
       have hnil:=qV
       clear e7 e10 e17 d s9 s11 s14 s16 s18 s21 e4 e5 h6 s2 s3 e1 hO_rpar hs hl
       first | rw [← hr] | rw [← ho]
       subst_vars
       simp_all [parR,okP,rawP]
      rw [r0,r1];exact h
 | false =>
  obtain ⟨n7,s8⟩:∃(n7:Nat),k=(n7:Int):=by exact ⟨zS s,hO_rpar⟩
  obtain ⟨v9,e9⟩:=LX ((s:List UInt8).take n7)
  have s10:n7≤(s:List UInt8).length:=by omega
  obtain ⟨v11,e11⟩:=LX (nz (vO (zp v9)))
  obtain ⟨v12,e12⟩:=LX (okO (zp v9))
  have s13:(v9:List UInt8).length≤1000:=by (rw [← e9];simp only [List.length_drop,List.length_take];omega)
  obtain ⟨v14,e14⟩:=LX (!v12)
  let A11:=fun t=>A1 (pS v9::pB v11.1::pD v11.2::pB v12::pB v14::t)
  have f11:LA (KN w0) A11:=fun t h=>f1 _ ⟨zc,zc,zm,zc,zc,h⟩
  have T11:LT (KN w0) Tryz.prog A11 zwt:=fun t=>⟨e_fbv h6,e_op2 (za rfl) (za rfl) (za rfl) (fun W=>by rw [← e9];exact zcf (by kernel_rfl) s8 s10 W),zh (qh v9 v11 v12 e11 e12 s13),e_un (za rfl) (za rfl) (fun W=>by rw [← e14];exact r_not W),T1 _⟩
  cases h15:v14 with
  | true =>
   have T12:LT (KN w0) Tryz.prog A11 zwV:=fun t=>⟨e_fbv h15,T11 _⟩
   have L_rpar:∀R:Frm,R.pm=⟨ntOf Tryz.prog 87,[],[]⟩→zj (KN w0) Tryz.prog (FL (A11 []) []) R qr (lp Tryz.prog 87 0):=fun R hR=>zbZ s  k rfl rfl R hR hO_rpar hl
   refine Fun.fin (r:=.t [.g [pV (.bool false),pV (.slice none 0 0),pV (.bool false),pV (.slice none 0 0)],.c (pV (.bool false))]) (zq (zN (F:=FL (A11 []) []) (C:=zwV) (k:=⟨87,[yh 0],[],.t [.g [.k (.bool false),.k (.slice none 0 0),.k (.bool false),.k (.slice none 0 0)],.c (.k (.bool false))],[]⟩) ⟨[qr],[],0⟩ [] 0 (zg (f11 [] trivial)) (T12 []) mixed trivial (fun R hR p hp s hs=>by
    have hl:zD (zR Tryz.prog 87)=[(2,lp Tryz.prog 87 0)]:=by kernel_rfl
    rw [hl] at hp
    simp only [List.mem_cons,List.not_mem_nil,or_false] at hp
    rcases hp with rfl
    ·have e:s=qr:=(Option.some.inj hs).symm
     subst e;exact L_rpar R hR) (by kernel_rfl))) (fun v W D h=>?_)
   have r0:r=rq none:=by
    have d:=LE e5 h6
    have hA:zQ s=v9:=by rw [← e9];unfold zQ;congr 1;omega
    have hB:zP s=[49]:=by unfold zP;rw [if_neg (by omega)]
    have ht:=@zM (v11,v1) s
    have hnil:=qV
    have h1:vO (zp [49])=1:=by rw [qj];rfl
    have h2:okO (zp [49])=true:=by rw [qj];rfl
    clear e9 d s8 s10 s13 e4 e5 h6 s2 s3 hO_rpar hs hl
    first | rw [← hr] | rw [← ho]
    subst_vars
    simp_all [parR,okP,rawP]
   have r1:o=false:=by
    have d:=LE e5 h6
    have hA:zQ s=v9:=by rw [← e9];unfold zQ;congr 1;omega
    have hB:zP s=[49]:=by unfold zP;rw [if_neg (by omega)]
    have ht:=@zM (v11,v1) s
    have hnil:=qV
    have h1:vO (zp [49])=1:=by rw [qj];rfl
    have h2:okO (zp [49])=true:=by rw [qj];rfl
    clear e9 d s8 s10 s13 e4 e5 h6 s2 s3 hO_rpar hs hl
    first | rw [← hr] | rw [← ho]
    subst_vars
    simp_all [parR,okP,rawP]
   rw [r0,r1];exact zaj h
  | false =>
   obtain ⟨v16,e16⟩:=LX (((s:List UInt8) == []))
   let A13:=fun t=>A11 (pB v16::t)
   have f13:LA (KN w0) A13:=fun t h=>f11 _ ⟨zc,h⟩
   have T13:LT (KN w0) Tryz.prog A13 zwu:=fun t=>⟨e_fbv h15,e_bin (za rfl) ze (za rfl) (fun W X Y=>by rw [← e16];exact r_seq W X Y),T11 _⟩
   cases h17:v16 with
   | true =>
    have T14:LT (KN w0) Tryz.prog A13 zwW:=fun t=>⟨e_fbv h17,T13 _⟩
    have L_rpar:∀R:Frm,R.pm=⟨ntOf Tryz.prog 87,[],[]⟩→zj (KN w0) Tryz.prog (FL (A13 []) []) R qr (lp Tryz.prog 87 0):=fun R hR=>zbZ s  k rfl rfl R hR hO_rpar hl
    refine Fun.fin (r:=.t [.g [pV (.bool false),pV (.slice none 0 0),pV (.bool false),pV (.slice none 0 0)],.c (pV (.bool false))]) (zq (zN (F:=FL (A13 []) []) (C:=zwW) (k:=⟨87,[yh 0],[],.t [.g [.k (.bool false),.k (.slice none 0 0),.k (.bool false),.k (.slice none 0 0)],.c (.k (.bool false))],[]⟩) ⟨[qr],[],0⟩ [] 0 (zg (f13 [] trivial)) (T14 []) mixed trivial (fun R hR p hp s hs=>by
     have hl:zD (zR Tryz.prog 87)=[(2,lp Tryz.prog 87 0)]:=by kernel_rfl
     rw [hl] at hp
     simp only [List.mem_cons,List.not_mem_nil,or_false] at hp
     rcases hp with rfl
     ·have e:s=qr:=(Option.some.inj hs).symm
      subst e;exact L_rpar R hR) (by kernel_rfl))) (fun v W D h=>?_)
    have r0:r=rq none:=by
     have d:=LE e5 h6
     have hA:zQ s=v9:=by rw [← e9];unfold zQ;congr 1;omega
     have hB:zP s=[49]:=by unfold zP;rw [if_neg (by omega)]
     have ht:=@zM (v11,v1) s
     have hnil:=qV
     have h1:vO (zp [49])=1:=by rw [qj];rfl
     have h2:okO (zp [49])=true:=by rw [qj];rfl
     clear e9 d s8 s10 s13 e4 e5 h6 s2 s3 hO_rpar hs hl
     first | rw [← hr] | rw [← ho]
     subst_vars
     simp_all [parR,okP,rawP]
    have r1:o=false:=by
     have d:=LE e5 h6
     have hA:zQ s=v9:=by rw [← e9];unfold zQ;congr 1;omega
     have hB:zP s=[49]:=by unfold zP;rw [if_neg (by omega)]
     have ht:=@zM (v11,v1) s
     have hnil:=qV
     have h1:vO (zp [49])=1:=by rw [qj];rfl
     have h2:okO (zp [49])=true:=by rw [qj];rfl
     clear e9 d s8 s10 s13 e4 e5 h6 s2 s3 hO_rpar hs hl
     first | rw [← hr] | rw [← ho]
     subst_vars
     simp_all [parR,okP,rawP]
    rw [r0,r1];exact zaj h
   | false =>
    obtain ⟨v18,e18⟩:=LX (textR (v11,v1))
    obtain ⟨v19,e19⟩:=LX (!((v18:List UInt8) == s))
    let A15:=fun t=>A13 (pS v18::pB v19::t)
    have f15:LA (KN w0) A15:=fun t h=>f13 _ ⟨zc,zc,h⟩
    have T15:LT (KN w0) Tryz.prog A15 zwv:=fun t=>⟨e_fbv h17,zh (zbv (v11,v1) v18 e18),e_bin (za rfl) (za rfl) (za rfl) (fun W X Y=>by rw [← e19];exact r_sne W X Y),T13 _⟩
    cases h20:v19 with
    | true =>
     have T16:LT (KN w0) Tryz.prog A15 zwX:=fun t=>⟨e_fbv h20,T15 _⟩
     have L_rpar:∀R:Frm,R.pm=⟨ntOf Tryz.prog 87,[],[]⟩→zj (KN w0) Tryz.prog (FL (A15 []) []) R qr (lp Tryz.prog 87 0):=fun R hR=>zbZ s  k rfl rfl R hR hO_rpar hl
     refine Fun.fin (r:=.t [.g [pV (.bool false),pV (.slice none 0 0),pV (.bool false),pV (.slice none 0 0)],.c (pV (.bool false))]) (zq (zN (F:=FL (A15 []) []) (C:=zwX) (k:=⟨87,[yh 0],[],.t [.g [.k (.bool false),.k (.slice none 0 0),.k (.bool false),.k (.slice none 0 0)],.c (.k (.bool false))],[]⟩) ⟨[qr],[],0⟩ [] 0 (zg (f15 [] trivial)) (T16 []) mixed trivial (fun R hR p hp s hs=>by
      have hl:zD (zR Tryz.prog 87)=[(2,lp Tryz.prog 87 0)]:=by kernel_rfl
      rw [hl] at hp
      simp only [List.mem_cons,List.not_mem_nil,or_false] at hp
      rcases hp with rfl
      ·have e:s=qr:=(Option.some.inj hs).symm
       subst e;exact L_rpar R hR) (by kernel_rfl))) (fun v W D h=>?_)
     have r0:r=rq none:=by
      have d:=LE e5 h6
      have hA:zQ s=v9:=by rw [← e9];unfold zQ;congr 1;omega
      have hB:zP s=[49]:=by unfold zP;rw [if_neg (by omega)]
      have ht:=@zM (v11,v1) s
      have hnil:=qV
      have h1:vO (zp [49])=1:=by rw [qj];rfl
      have h2:okO (zp [49])=true:=by rw [qj];rfl
      clear e9 d s8 s10 s13 e4 e5 h6 s2 s3 hO_rpar hs hl
      first | rw [← hr] | rw [← ho]
      subst_vars
      simp_all [parR,okP,rawP]
     have r1:o=false:=by
      have d:=LE e5 h6
      have hA:zQ s=v9:=by rw [← e9];unfold zQ;congr 1;omega
      have hB:zP s=[49]:=by unfold zP;rw [if_neg (by omega)]
      have ht:=@zM (v11,v1) s
      have hnil:=qV
      have h1:vO (zp [49])=1:=by rw [qj];rfl
      have h2:okO (zp [49])=true:=by rw [qj];rfl
      clear e9 d s8 s10 s13 e4 e5 h6 s2 s3 hO_rpar hs hl
      first | rw [← hr] | rw [← ho]
      subst_vars
      simp_all [parR,okP,rawP]
     rw [r0,r1];exact zaj h
    | false =>
     have T17:LT (KN w0) Tryz.prog A15 zwY:=fun t=>⟨e_fbv h20,T15 _⟩
     have L_rpar:∀R:Frm,R.pm=⟨ntOf Tryz.prog 87,[],[]⟩→zj (KN w0) Tryz.prog (FL (A15 []) []) R qr (lp Tryz.prog 87 0):=fun R hR=>zbZ s  k rfl rfl R hR hO_rpar hl
     refine Fun.fin (r:=.t [.g [pB v11.1,pD v11.2,pB v1.1,pD v1.2],.c (pV (.bool true))]) (zq (zN (F:=FL (A15 []) []) (C:=zwY) (k:=⟨87,[yh 0],[],.t [.g [.h 7,.h 8,.h 2,.h 3],.c (.k (.bool true))],[]⟩) ⟨[qr],[],0⟩ [] 0 (zg (f15 [] trivial)) (T17 []) mixed trivial (fun R hR p hp s hs=>by
      have hl:zD (zR Tryz.prog 87)=[(2,lp Tryz.prog 87 0)]:=by kernel_rfl
      rw [hl] at hp
      simp only [List.mem_cons,List.not_mem_nil,or_false] at hp
      rcases hp with rfl
      ·have e:s=qr:=(Option.some.inj hs).symm
       subst e;exact L_rpar R hR) (by kernel_rfl))) (fun v W D h=>?_)
     have r0:r=(v11,v1):=by
      have d:=LE e5 h6
      have hA:zQ s=v9:=by rw [← e9];unfold zQ;congr 1;omega
      have hB:zP s=[49]:=by unfold zP;rw [if_neg (by omega)]
      have ht:=@zM (v11,v1) s
      have hnil:=qV
      have h1:vO (zp [49])=1:=by rw [qj];rfl
      have h2:okO (zp [49])=true:=by rw [qj];rfl
      clear e9 d s8 s10 s13 e4 e5 h6 s2 s3 hO_rpar hs hl
      first | rw [← hr] | rw [← ho]
      subst_vars
      simp_all [parR,okP,rawP]
     have r1:o=true:=by
      have d:=LE e5 h6
      have hA:zQ s=v9:=by rw [← e9];unfold zQ;congr 1;omega
      have hB:zP s=[49]:=by unfold zP;rw [if_neg (by omega)]
      have ht:=@zM (v11,v1) s
      have hnil:=qV
      have h1:vO (zp [49])=1:=by rw [qj];rfl
      have h2:okO (zp [49])=true:=by rw [qj];rfl
      clear e9 d s8 s10 s13 e4 e5 h6 s2 s3 hO_rpar hs hl
      first | rw [← hr] | rw [← ho]
      subst_vars
      simp_all [parR,okP,rawP]
     rw [r0,r1];exact h
end Go.Proofs.YtjcegdldgjphiaaGreatDoor
namespace Go.Proofs.YtjcegdldgjphiaaGreatDoor
open Go.RowKit Go.Shelf
end Go.Proofs.YtjcegdldgjphiaaGreatDoor
