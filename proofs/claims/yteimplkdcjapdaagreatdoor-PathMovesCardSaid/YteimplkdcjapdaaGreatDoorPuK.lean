/-
  Merged: PtK, ExC, ExE, ExF.
-/
import Derived.Test.YteimplkdcjapdaaGreatDoorPuJ
import Derived.Shelf.GgClosure.StringsIndexFuncTop
set_option linter.unusedSimpArgs false
set_option linter.unusedVariables false
set_option maxRecDepth 100000
namespace Go.Proofs.YteimplkdcjapdaaGreatDoor
open Go.RowKit
abbrev Stm:=Int×Int×List UInt8×List Xp
abbrev Sb:=List UInt8×Int×List Stm
def cSt (s:Stm):List Pred:=[pI s.1,pI s.2.1,pS s.2.2.1,pLs cE s.2.2.2]
theorem z8 {w0:World} (s:Stm):FineAll (KN w0) (cSt s):=⟨zb,zb,zb,zx (zz rfl),trivial⟩
def cSb (s:Sb):List Pred:=[pS s.1,pI s.2.1,pLs cSt s.2.2]
theorem qg {w0:World} (s:Sb):FineAll (KN w0) (cSb s):=⟨zb,zb,zx z8,trivial⟩
def oddR (x:Nat):Bool:=(decide (x<97) || decide (x > 122)) && (decide (x<48) || decide (x > 57))
def nameB (s:List UInt8):Bool:=(s != []) && (decide (s.length≤12) && s.all fun b=>!oddR b.toNat)
theorem zjB (s:ByteArray) (i:Nat) (h:128≤(s.get! i).toNat):128≤(Utf8.decode s i).1:=by
 unfold Utf8.decode
 simp only [Nat.add_zero]
 rw [if_neg (by omega)]
 split
 ·split
  ·rename_i h2;exact h2
  ·decide
 ·split
  ·split
   ·rename_i h2;simp only [Bool.and_eq_true,decide_eq_true_eq] at h2;omega
   ·decide
  ·split
   ·split
    ·rename_i h2;simp only [Bool.and_eq_true,decide_eq_true_eq] at h2;omega
    ·decide
   ·decide
theorem zfC (s:ByteArray) (i:Nat) (h:(s.get! i).toNat<128):Utf8.decode s i=((s.get! i).toNat,1):=by
 unfold Utf8.decode
 simp only [Nat.add_zero]
 rw [if_pos (by omega)]
theorem znw (l:List UInt8) (i:Nat) (b:UInt8) (h:l[i]?=some b):(⟨l.toArray⟩:ByteArray).get! i=b:=by
 obtain ⟨hi,rfl⟩:=List.getElem?_eq_some_iff.1 h
 simp [ByteArray.get!,hi]
theorem zly (l:List UInt8):∀(f pos:Nat),l.length≤pos+f→decide (0≤Lib.idxFuncFrom oddR true ⟨l.toArray⟩ f pos)=!((l.drop pos).all fun b=>!oddR b.toNat)
 | 0,pos,h=>by
  rw [List.drop_of_length_le (by omega)]
  rfl
 | f+1,pos,h=>by
  unfold Lib.idxFuncFrom
  have hsz:(⟨l.toArray⟩:ByteArray).size=l.length:=by simp [ByteArray.size]
  rw [hsz]
  by_cases hp:pos<l.length
  ·rw [if_pos hp,List.drop_eq_getElem_cons hp,List.all_cons]
   have hg:=znw l pos _ (List.getElem?_eq_getElem hp)
   by_cases hb:(l[pos]).toNat<128
   ·rw [zfC _ _ (by rw [hg];exact hb),hg]
    cases ho:oddR l[pos].toNat with
    | true =>
     rw [if_pos rfl]
     simp
    | false =>
     rw [if_neg (by decide)]
     have:=zly l f (pos+1) (by omega)
     rw [this];simp
   ·have hd:=zjB (⟨l.toArray⟩:ByteArray) pos (by rw [hg];omega)
    have h1:oddR (Utf8.decode (⟨l.toArray⟩:ByteArray) pos).1=true:=by
     unfold oddR;simp;omega
    have h2:oddR l[pos].toNat=true:=by
     unfold oddR;simp;omega
    rw [if_pos h1,h2]
    simp
  ·rw [if_neg hp,List.drop_of_length_le (by omega)]
   rfl
theorem zqm (l:List UInt8):decide (0≤Lib.idxFunc oddR true ⟨l.toArray⟩)=!(l.all fun b=>!oddR b.toNat):=by
 unfold Lib.idxFunc
 have:=zly l (⟨l.toArray⟩:ByteArray).size 0 (by simp [ByteArray.size])
 rwa [List.drop_zero] at this
abbrev Frmt:=Int×Int×List UInt8×Int
def zg:List Frmt:=[(1,0,[114,97,112,105,100,44,44,44],0),(2,0,[108,105,110,101,44,44,44,44,102,101,101,100,44],0),(3,0,[97,114,99,44,44,44,44,116,111,44,44,44,44,102,101,101,100,44],0),(4,0,[99,111,109,112,44,111,102,102],0),(4,1,[99,111,109,112,44,108,101,102,116,44],0),(4,2,[99,111,109,112,44,114,105,103,104,116,44],0),(5,0,[99,97,108,108,44,61],4)]
def zae (s:Stm) (f:Frmt):Bool:=(f.1 == s.1) && (f.2.1 == s.2.1)
def zbf:List UInt8→List (List UInt8)
 | []=>[[]]
 | b::r=>match zbf r with
  | x::xs=>if b=44 then []::x::xs else (b::x)::xs
  | []=>[[b]]
def manyF (f:Frmt):Int:=((zbf f.2.2.1).countP (· == []):Nat)
def zaf (f:Frmt):Bool:=f.1 == 5
def zbb (a:Int):List Xp→Int
 | []=>0
 | x::r=>if z6 x a≠0 then z6 x a else zbb a r
def fitsF (s:Stm) (f:Frmt):Bool:=!(decide ((s.2.2.2.length:Int)<manyF f) || decide ((s.2.2.2.length:Int) > manyF f+f.2.2.2)) && !(!zaf f && s.2.2.1 != [])
def stmE (a:Int) (s:Stm):Int:=match zg.find? (zae s) with
 | none=>4
 | some f=>if fitsF s f then (if zaf f && !nameB s.2.2.1 then 10 else zbb a s.2.2.2) else 4
def stmsE (a:Int):List Stm→Int
 | []=>0
 | s::r=>if stmE a s≠0 then stmE a s else stmsE a r
def subsE (known:List (List UInt8)):List Sb→Int
 | []=>0
 | s::r=>if !nameB s.1 then 10 else if known.contains s.1 then 6 else if s.2.1<0∨s.2.1 > 4 then 3 else if stmsE s.2.1 s.2.2≠0 then stmsE s.2.1 s.2.2 else subsE (known++[s.1]) r
def zay:List Sb→Nat
 | []=>0
 | s::r=>2+s.2.2.length+zay r
def zD (l:List Sb):Int:=if zay l=0∨zay l > 120 then 2 else subsE [] l
def kSt (x:Stm):List SV:=[sI x.1,sI x.2.1,sS x.2.2.1,.ls 3 cE kE x.2.2.2]
instance {w0:World} {x:Stm}:FiL (KN w0) (kSt x):=inferInstanceAs (FiL (KN w0) [_,_,_,_])
instance {w0:World} {xs:List Stm}:Fi (KN w0) (.ls 4 cSt kSt xs):=fi_ls (fun _=>rfl) (fun _=>inferInstance) (fun _=>rfl)
instance {w0:World} {xs:List Stm}:FiP (KN w0) (pG cSt xs):=⟨qc (z8)⟩
def kSb (x:Sb):List SV:=[sS x.1,sI x.2.1,.ls 4 cSt kSt x.2.2]
instance {w0:World} {x:Sb}:FiL (KN w0) (kSb x):=inferInstanceAs (FiL (KN w0) [_,_,_])
instance {w0:World} {xs:List Sb}:Fi (KN w0) (.ls 3 cSb kSb xs):=fi_ls (fun _=>rfl) (fun _=>inferInstance) (fun _=>rfl)
instance {w0:World} {xs:List Sb}:FiP (KN w0) (pG cSb xs):=⟨qc (qg)⟩
theorem zkf {w0:World} (n:Int) (v1:Bool) (v3:Bool) (e1:(decide (n ≥ (-1048576:Int)))=v1) (e3:(decide (n≤(1048576:Int)))=v3) (h2:v1=true):Fun (KN w0) Tryz.prog 141 [.o (.c (pI n))] (.o (.c (pB v3))):=
 zc (zba (F:=FL [pI n,pB v1,pB v3] []) (C:=[(1000002,.bin .geq 3 (yh 0) (LF (.k (.int .i64 (-1048576)))) (yh 1)),
  (10001,.fb 1 true),
  (1000005,.bin .leq 3 (yh 0) (LF (.k (.int .i64 1048576))) (yh 2))]) (k:=⟨141,[yh 0],[],yh 2,[]⟩) 0 (zw ⟨zb,zb,zb,trivial⟩) ⟨e_bin (za rfl) zf (za rfl) (r_cmp (LO e1)),
  e_fbv h2,
  e_bin (za rfl) zf (za rfl) (r_cmp (LO e3)),
  trivial⟩ mixed (by kernel_rfl))
theorem zkg {w0:World} (n:Int) (v1:Bool) (e1:(decide (n ≥ (-1048576:Int)))=v1) (h2:v1=false):Fun (KN w0) Tryz.prog 141 [.o (.c (pI n))] (.o (.c (pV (.bool false)))):=
 zc (zba (F:=FL [pI n,pB v1] []) (C:=[(1000002,.bin .geq 3 (yh 0) (LF (.k (.int .i64 (-1048576)))) (yh 1)),
  (10001,.fb 1 false)]) (k:=⟨141,[yh 0],[],.o (.c (.k (.bool false))),[]⟩) 0 (zw ⟨zb,zb,trivial⟩) ⟨e_bin (za rfl) zf (za rfl) (r_cmp (LO e1)),
  e_fbv h2,
  trivial⟩ mixed (by kernel_rfl))
theorem qj {w0:World} (n:Int) (r:Bool) (hr:valB n=r):Fun (KN w0) Tryz.prog 141 [.o (.c (pI n))] (.o (.c (pB r))):=by
 obtain ⟨v1,e1⟩:=LX (decide (n ≥ (-1048576:Int)))
 cases h2:v1 with
 | true =>
  obtain ⟨v3,e3⟩:=LX (decide (n≤(1048576:Int)))
  refine Fun.imp (zkf n v1 v3 e1 e3 h2) (fun _ _ _ h=>h) (fun v W D h=>?_)
  have r0:r=v3:=by
   rw [← hr];unfold valB;simp_all;try omega
  rw [r0];exact h
 | false =>
  refine Fun.imp (zkg n v1 e1 h2) (fun _ _ _ h=>h) (fun v W D h=>?_)
  have r0:r=false:=by
   rw [← hr];unfold valB;simp_all;try omega
  rw [r0];exact h
def fbs (l:List (Nat×Bool)):List (Nat×Ent):=l.map fun p=>(10000+p.1,.fb p.1 p.2)
def FbOk (F:Fact):List (Nat×Bool)→Prop
 | []=>True
 | p::r=>F.c p.1=pB p.2∧FbOk F r
theorem zpb {K:Kit} {P:Program} {F:Fact}:∀l,FbOk F l→Sound K P F (fbs l)
 | [],_=>trivial
 | (n,b)::r,h=>⟨e_fb h.1,zpb r h.2⟩
def sel (E:List Ent) (s:List (Nat×Nat)):List (Nat×Ent):=s.filterMap fun p=>(E[p.2]?).map (Prod.mk (1000000+p.1))
def zki (K:Kit) (P:Program) (F:Fact):List Ent→Prop
 | []=>True
 | e::r=>e.sound K P F∧zki K P F r
theorem zix {K:Kit} {P:Program} {F:Fact} {x:Ent}:∀{E:List Ent},zki K P F E→x∈E→x.sound K P F
 | _::_,h,hx=>by
  rcases List.mem_cons.1 hx with rfl | hx
  ·exact h.1
  ·exact zix h.2 hx
theorem zl9 {K:Kit} {P:Program} {F:Fact} {E:List Ent} (h:zki K P F E):∀s,Sound K P F (sel E s)
 | []=>trivial
 | p::r=>by
  unfold sel
  rw [List.filterMap_cons]
  cases he:E[p.2]? with
  | none=>exact zl9 h r
  | some x=>exact ⟨zix h (List.mem_of_getElem? he),zl9 h r⟩
theorem zf9 {K:Kit} {P:Program} {F:Fact}:∀{C D:List (Nat×Ent)},Sound K P F C→Sound K P F D→Sound K P F (C++D)
 | [],_,_,h=>h
 | _::_,_,h1,h2=>⟨h1.1,zf9 h1.2 h2⟩
abbrev zej:List Ent:=[.bin .eql 3 (yh 0) (LF (.k (.int .i64 1))) (yh 4),
  .op (.len [58] 3) [yh 2] [] (yh 5),
  .bin .gtr 3 (yh 5) (LF (.k (.int .i64 0))) (yh 6),
  .call ⟨141,[yh 1],[],yh 7,[]⟩,
  .un .not (yh 7) (yh 8),
  .bin .eql 3 (yh 0) (LF (.k (.int .i64 2))) (yh 9),
  .bin .lss 3 (yh 1) (LF (.k (.int .i64 0))) (yh 10),
  .op (.min [3,3] 3) [yh 3,LF (.k (.int .i64 4))] [] (yh 11),
  .bin .geq 3 (yh 1) (yh 11) (yh 12),
  .bin .eql 3 (yh 0) (LF (.k (.int .i64 3))) (yh 13),
  .bin .eql 3 (yh 5) (LF (.k (.int .i64 2))) (yh 14),
  .bin .eql 3 (yh 1) (LF (.k (.int .i64 0))) (yh 15),
  .bin .eql 3 (yh 0) (LF (.k (.int .i64 4))) (yh 16),
  .bin .eql 3 (yh 0) (LF (.k (.int .i64 5))) (yh 17),
  .bin .eql 3 (yh 0) (LF (.k (.int .i64 6))) (yh 18),
  .bin .eql 3 (yh 0) (LF (.k (.int .i64 7))) (yh 19)]
theorem zkb {w0:World} (e:Xp) (a:Int) (v1:Bool) (v2:Int) (v3:Bool) (v4:Bool) (v5:Bool) (v6:Bool) (v7:Bool) (v8:Int) (v9:Bool) (v10:Bool) (v11:Bool) (v12:Bool) (v13:Bool) (v14:Bool) (v15:Bool) (v16:Bool) (e1:((e.op == (1:Int)))=v1) (e2:((e.l.length:Int))=v2) (e3:(decide (v2 > (0:Int)))=v3) (e4:(valB e.n)=v4) (e5:(!v4)=v5) (e6:((e.op == (2:Int)))=v6) (e7:(decide (e.n<(0:Int)))=v7) (e8:((if (4:Int)<a then (4:Int) else a))=v8) (e9:(decide (e.n ≥ v8))=v9) (e10:((e.op == (3:Int)))=v10) (e11:((v2 == (2:Int)))=v11) (e12:((e.n == (0:Int)))=v12) (e13:((e.op == (4:Int)))=v13) (e14:((e.op == (5:Int)))=v14) (e15:((e.op == (6:Int)))=v15) (e16:((e.op == (7:Int)))=v16) (l:List (Nat×Bool)) (hl:FbOk (FL [pI e.op,pI e.n,pLs cE e.l,pI a,pB v1,pI v2,pB v3,pB v4,pB v5,pB v6,pB v7,pI v8,pB v9,pB v10,pB v11,pB v12,pB v13,pB v14,pB v15,pB v16] []) l) (s:List (Nat×Nat)) (o:Int) (h:conOk (KN w0) Tryz.prog (fbs l++sel zej s) 0 ⟨153,[.o (.g [.h 0,.h 1,.h 2]),yh 3],[],.o (.c (.k (.int .i64 o))),[]⟩=true):Fun (KN w0) Tryz.prog 153 [.o (.g [pI e.op,pI e.n,pLs cE e.l]),.o (.c (pI a))] (.o (.c (pV (.int .i64 o)))):=
 zc (zba (F:=FL [pI e.op,pI e.n,pLs cE e.l,pI a,pB v1,pI v2,pB v3,pB v4,pB v5,pB v6,pB v7,pI v8,pB v9,pB v10,pB v11,pB v12,pB v13,pB v14,pB v15,pB v16] []) 0 (zw ⟨zb,zb,(zx (zz rfl)),zb,zb,zb,zb,zb,zb,zb,zb,zb,zb,zb,zb,zb,zb,zb,zb,zb,trivial⟩) (zf9 (zpb l hl) (zl9 (E:=zej) ⟨e_bin (za rfl) zf (za rfl) (r_cmp (LO e1)),
  zcA (E:=60) (by kernel_rfl) (zm rfl) (za (by rw [e2];rfl)),
  e_bin (za rfl) zf (za rfl) (r_cmp (LO e3)),
  zE (qj e.n v4 e4),
  e_un (za rfl) (za rfl) (fun W=>by rw [← e5];exact r_not W),
  e_bin (za rfl) zf (za rfl) (r_cmp (LO e6)),
  e_bin (za rfl) zf (za rfl) (r_cmp (LO e7)),
  e_op2 (za rfl) zf (za rfl) (fun W=>by rw [← e8];exact zlW W),
  e_bin (za rfl) (za rfl) (za rfl) (r_cmp (LO e9)),
  e_bin (za rfl) zf (za rfl) (r_cmp (LO e10)),
  e_bin (za rfl) zf (za rfl) (r_cmp (LO e11)),
  e_bin (za rfl) zf (za rfl) (r_cmp (LO e12)),
  e_bin (za rfl) zf (za rfl) (r_cmp (LO e13)),
  e_bin (za rfl) zf (za rfl) (r_cmp (LO e14)),
  e_bin (za rfl) zf (za rfl) (r_cmp (LO e15)),
  e_bin (za rfl) zf (za rfl) (r_cmp (LO e16)),
  trivial⟩ s)) mixed h)
theorem zoM {w0:World} (e:Xp) (a:Int) (r:Int) (hr:zj e.op e.n e.l.length a=r):Fun (KN w0) Tryz.prog 153 [.o (.g [pI e.op,pI e.n,pLs cE e.l]),.o (.c (pI a))] (.o (.c (pI r))):=by
 obtain ⟨v1,e1⟩:=LX ((e.op == (1:Int)))
 obtain ⟨v2,e2⟩:=LX ((e.l.length:Int))
 obtain ⟨v3,e3⟩:=LX (decide (v2 > (0:Int)))
 obtain ⟨v4,e4⟩:=LX (valB e.n)
 obtain ⟨v5,e5⟩:=LX (!v4)
 obtain ⟨v6,e6⟩:=LX ((e.op == (2:Int)))
 obtain ⟨v7,e7⟩:=LX (decide (e.n<(0:Int)))
 obtain ⟨v8,e8⟩:=LX ((if (4:Int)<a then (4:Int) else a))
 obtain ⟨v9,e9⟩:=LX (decide (e.n ≥ v8))
 obtain ⟨v10,e10⟩:=LX ((e.op == (3:Int)))
 obtain ⟨v11,e11⟩:=LX ((v2 == (2:Int)))
 obtain ⟨v12,e12⟩:=LX ((e.n == (0:Int)))
 obtain ⟨v13,e13⟩:=LX ((e.op == (4:Int)))
 obtain ⟨v14,e14⟩:=LX ((e.op == (5:Int)))
 obtain ⟨v15,e15⟩:=LX ((e.op == (6:Int)))
 obtain ⟨v16,e16⟩:=LX ((e.op == (7:Int)))
 have U:=@zkb w0 e a v1 v2 v3 v4 v5 v6 v7 v8 v9 v10 v11 v12 v13 v14 v15 v16 e1 e2 e3 e4 e5 e6 e7 e8 e9 e10 e11 e12 e13 e14 e15 e16
 cases h1:v1 with
 | true =>
  have dh1:=eq_of_beq (e1.trans h1)
  cases h2:v3 with
  | true =>
   have dh2:=LD e3 h2
   have r0:r=4:=by (rw [← hr];unfold zj;clear hr;(repeat' split)<;>first | rfl | omega | (exfalso;simp_all;done) | (exfalso;simp_all;omega))
   rw [r0];exact U [(4,true),(6,true)] ⟨congrArg pB h1,congrArg pB h2,trivial⟩ [(4,0),(8,1),(9,2)] 4 (by kernel_rfl)
  | false =>
   have dh2:=LE e3 h2
   cases h3:v5 with
   | true =>
    have r0:r=3:=by (rw [← hr];unfold zj;clear hr;(repeat' split)<;>first | rfl | omega | (exfalso;simp_all;done) | (exfalso;simp_all;omega))
    rw [r0];exact U [(4,true),(6,false),(8,true)] ⟨congrArg pB h1,congrArg pB h2,congrArg pB h3,trivial⟩ [(4,0),(8,1),(9,2),(13,0),(17,3),(18,4)] 3 (by kernel_rfl)
   | false =>
    cases h4:v6 with
    | true =>
     have dh4:=eq_of_beq (e6.trans h4)
     cases h5:v7 with
     | true =>
      have dh5:=LD e7 h5
      have r0:r=1:=by (rw [← hr];unfold zj;clear hr;(repeat' split)<;>first | rfl | omega | (exfalso;simp_all;done) | (exfalso;simp_all;omega))
      rw [r0];exact U [(4,true),(6,false),(8,false),(9,true),(10,true)] ⟨congrArg pB h1,congrArg pB h2,congrArg pB h3,congrArg pB h4,congrArg pB h5,trivial⟩ [(4,0),(8,1),(9,2),(13,0),(17,3),(18,4),(23,5),(27,6)] 1 (by kernel_rfl)
     | false =>
      have dh5:=LE e7 h5
      cases h6:v9 with
      | true =>
       have dh6:=LD e9 h6
       have r0:r=1:=by (rw [← hr];unfold zj;clear hr;(repeat' split)<;>first | rfl | omega | (exfalso;simp_all;done) | (exfalso;simp_all;omega))
       rw [r0];exact U [(4,true),(6,false),(8,false),(9,true),(10,false),(12,true)] ⟨congrArg pB h1,congrArg pB h2,congrArg pB h3,congrArg pB h4,congrArg pB h5,congrArg pB h6,trivial⟩ [(4,0),(8,1),(9,2),(13,0),(17,3),(18,4),(23,5),(27,6),(32,7),(33,8)] 1 (by kernel_rfl)
      | false =>
       have dh6:=LE e9 h6
       have r0:r=0:=by (rw [← hr];unfold zj;clear hr;(repeat' split)<;>first | rfl | omega | (exfalso;simp_all;done) | (exfalso;simp_all;omega))
       rw [r0];exact U [(4,true),(6,false),(8,false),(9,true),(10,false),(12,false)] ⟨congrArg pB h1,congrArg pB h2,congrArg pB h3,congrArg pB h4,congrArg pB h5,congrArg pB h6,trivial⟩ [(4,0),(8,1),(9,2),(13,0),(17,3),(18,4),(23,5),(27,6),(32,7),(33,8)] 0 (by kernel_rfl)
    | false =>
     have dh4:=ne_of_beq_false (e6.trans h4)
     have r0:r=0:=by (rw [← hr];unfold zj;clear hr;(repeat' split)<;>first | rfl | omega | (exfalso;simp_all;done) | (exfalso;simp_all;omega))
     rw [r0];exact U [(4,true),(6,false),(8,false),(9,false)] ⟨congrArg pB h1,congrArg pB h2,congrArg pB h3,congrArg pB h4,trivial⟩ [(4,0),(8,1),(9,2),(13,0),(17,3),(18,4),(23,5)] 0 (by kernel_rfl)
 | false =>
  have dh1:=ne_of_beq_false (e1.trans h1)
  cases h2:v6 with
  | true =>
   have dh2:=eq_of_beq (e6.trans h2)
   cases h3:v3 with
   | true =>
    have dh3:=LD e3 h3
    have r0:r=4:=by (rw [← hr];unfold zj;clear hr;(repeat' split)<;>first | rfl | omega | (exfalso;simp_all;done) | (exfalso;simp_all;omega))
    rw [r0];exact U [(4,false),(9,true),(6,true)] ⟨congrArg pB h1,congrArg pB h2,congrArg pB h3,trivial⟩ [(4,0),(6,5),(10,1),(11,2)] 4 (by kernel_rfl)
   | false =>
    have dh3:=LE e3 h3
    cases h4:v7 with
    | true =>
     have dh4:=LD e7 h4
     have r0:r=1:=by (rw [← hr];unfold zj;clear hr;(repeat' split)<;>first | rfl | omega | (exfalso;simp_all;done) | (exfalso;simp_all;omega))
     rw [r0];exact U [(4,false),(9,true),(6,false),(10,true)] ⟨congrArg pB h1,congrArg pB h2,congrArg pB h3,congrArg pB h4,trivial⟩ [(4,0),(6,5),(10,1),(11,2),(15,0),(25,5),(29,6)] 1 (by kernel_rfl)
    | false =>
     have dh4:=LE e7 h4
     cases h5:v9 with
     | true =>
      have dh5:=LD e9 h5
      have r0:r=1:=by (rw [← hr];unfold zj;clear hr;(repeat' split)<;>first | rfl | omega | (exfalso;simp_all;done) | (exfalso;simp_all;omega))
      rw [r0];exact U [(4,false),(9,true),(6,false),(10,false),(12,true)] ⟨congrArg pB h1,congrArg pB h2,congrArg pB h3,congrArg pB h4,congrArg pB h5,trivial⟩ [(4,0),(6,5),(10,1),(11,2),(15,0),(25,5),(29,6),(34,7),(35,8)] 1 (by kernel_rfl)
     | false =>
      have dh5:=LE e9 h5
      have r0:r=0:=by (rw [← hr];unfold zj;clear hr;(repeat' split)<;>first | rfl | omega | (exfalso;simp_all;done) | (exfalso;simp_all;omega))
      rw [r0];exact U [(4,false),(9,true),(6,false),(10,false),(12,false)] ⟨congrArg pB h1,congrArg pB h2,congrArg pB h3,congrArg pB h4,congrArg pB h5,trivial⟩ [(4,0),(6,5),(10,1),(11,2),(15,0),(25,5),(29,6),(34,7),(35,8)] 0 (by kernel_rfl)
  | false =>
   have dh2:=ne_of_beq_false (e6.trans h2)
   cases h3:v10 with
   | true =>
    have dh3:=eq_of_beq (e10.trans h3)
    cases h4:v11 with
    | true =>
     have dh4:=eq_of_beq (e11.trans h4)
     cases h5:v12 with
     | true =>
      have dh5:=eq_of_beq (e12.trans h5)
      have r0:r=0:=by (rw [← hr];unfold zj;clear hr;(repeat' split)<;>first | rfl | omega | (exfalso;simp_all;done) | (exfalso;simp_all;omega))
      rw [r0];exact U [(4,false),(9,false),(13,true),(14,true),(15,true)] ⟨congrArg pB h1,congrArg pB h2,congrArg pB h3,congrArg pB h4,congrArg pB h5,trivial⟩ [(4,0),(6,5),(8,9),(12,1),(13,10),(17,11)] 0 (by kernel_rfl)
     | false =>
      have dh5:=ne_of_beq_false (e12.trans h5)
      have r0:r=4:=by (rw [← hr];unfold zj;clear hr;(repeat' split)<;>first | rfl | omega | (exfalso;simp_all;done) | (exfalso;simp_all;omega))
      rw [r0];exact U [(4,false),(9,false),(13,true),(14,true),(15,false)] ⟨congrArg pB h1,congrArg pB h2,congrArg pB h3,congrArg pB h4,congrArg pB h5,trivial⟩ [(4,0),(6,5),(8,9),(12,1),(13,10),(17,11)] 4 (by kernel_rfl)
    | false =>
     have dh4:=ne_of_beq_false (e11.trans h4)
     have r0:r=4:=by (rw [← hr];unfold zj;clear hr;(repeat' split)<;>first | rfl | omega | (exfalso;simp_all;done) | (exfalso;simp_all;omega))
     rw [r0];exact U [(4,false),(9,false),(13,true),(14,false)] ⟨congrArg pB h1,congrArg pB h2,congrArg pB h3,congrArg pB h4,trivial⟩ [(4,0),(6,5),(8,9),(12,1),(13,10)] 4 (by kernel_rfl)
   | false =>
    have dh3:=ne_of_beq_false (e10.trans h3)
    cases h4:v13 with
    | true =>
     have dh4:=eq_of_beq (e13.trans h4)
     cases h5:v11 with
     | true =>
      have dh5:=eq_of_beq (e11.trans h5)
      cases h6:v12 with
      | true =>
       have dh6:=eq_of_beq (e12.trans h6)
       have r0:r=0:=by (rw [← hr];unfold zj;clear hr;(repeat' split)<;>first | rfl | omega | (exfalso;simp_all;done) | (exfalso;simp_all;omega))
       rw [r0];exact U [(4,false),(9,false),(13,false),(16,true),(14,true),(15,true)] ⟨congrArg pB h1,congrArg pB h2,congrArg pB h3,congrArg pB h4,congrArg pB h5,congrArg pB h6,trivial⟩ [(4,0),(6,5),(8,9),(10,12),(14,1),(15,10),(19,11)] 0 (by kernel_rfl)
      | false =>
       have dh6:=ne_of_beq_false (e12.trans h6)
       have r0:r=4:=by (rw [← hr];unfold zj;clear hr;(repeat' split)<;>first | rfl | omega | (exfalso;simp_all;done) | (exfalso;simp_all;omega))
       rw [r0];exact U [(4,false),(9,false),(13,false),(16,true),(14,true),(15,false)] ⟨congrArg pB h1,congrArg pB h2,congrArg pB h3,congrArg pB h4,congrArg pB h5,congrArg pB h6,trivial⟩ [(4,0),(6,5),(8,9),(10,12),(14,1),(15,10),(19,11)] 4 (by kernel_rfl)
     | false =>
      have dh5:=ne_of_beq_false (e11.trans h5)
      have r0:r=4:=by (rw [← hr];unfold zj;clear hr;(repeat' split)<;>first | rfl | omega | (exfalso;simp_all;done) | (exfalso;simp_all;omega))
      rw [r0];exact U [(4,false),(9,false),(13,false),(16,true),(14,false)] ⟨congrArg pB h1,congrArg pB h2,congrArg pB h3,congrArg pB h4,congrArg pB h5,trivial⟩ [(4,0),(6,5),(8,9),(10,12),(14,1),(15,10)] 4 (by kernel_rfl)
    | false =>
     have dh4:=ne_of_beq_false (e13.trans h4)
     cases h5:v14 with
     | true =>
      have dh5:=eq_of_beq (e14.trans h5)
      cases h6:v11 with
      | true =>
       have dh6:=eq_of_beq (e11.trans h6)
       cases h7:v12 with
       | true =>
        have dh7:=eq_of_beq (e12.trans h7)
        have r0:r=0:=by (rw [← hr];unfold zj;clear hr;(repeat' split)<;>first | rfl | omega | (exfalso;simp_all;done) | (exfalso;simp_all;omega))
        rw [r0];exact U [(4,false),(9,false),(13,false),(16,false),(17,true),(14,true),(15,true)] ⟨congrArg pB h1,congrArg pB h2,congrArg pB h3,congrArg pB h4,congrArg pB h5,congrArg pB h6,congrArg pB h7,trivial⟩ [(4,0),(6,5),(8,9),(10,12),(12,13),(16,1),(17,10),(21,11)] 0 (by kernel_rfl)
       | false =>
        have dh7:=ne_of_beq_false (e12.trans h7)
        have r0:r=4:=by (rw [← hr];unfold zj;clear hr;(repeat' split)<;>first | rfl | omega | (exfalso;simp_all;done) | (exfalso;simp_all;omega))
        rw [r0];exact U [(4,false),(9,false),(13,false),(16,false),(17,true),(14,true),(15,false)] ⟨congrArg pB h1,congrArg pB h2,congrArg pB h3,congrArg pB h4,congrArg pB h5,congrArg pB h6,congrArg pB h7,trivial⟩ [(4,0),(6,5),(8,9),(10,12),(12,13),(16,1),(17,10),(21,11)] 4 (by kernel_rfl)
      | false =>
       have dh6:=ne_of_beq_false (e11.trans h6)
       have r0:r=4:=by (rw [← hr];unfold zj;clear hr;(repeat' split)<;>first | rfl | omega | (exfalso;simp_all;done) | (exfalso;simp_all;omega))
       rw [r0];exact U [(4,false),(9,false),(13,false),(16,false),(17,true),(14,false)] ⟨congrArg pB h1,congrArg pB h2,congrArg pB h3,congrArg pB h4,congrArg pB h5,congrArg pB h6,trivial⟩ [(4,0),(6,5),(8,9),(10,12),(12,13),(16,1),(17,10)] 4 (by kernel_rfl)
     | false =>
      have dh5:=ne_of_beq_false (e14.trans h5)
      cases h6:v15 with
      | true =>
       have dh6:=eq_of_beq (e15.trans h6)
       cases h7:v11 with
       | true =>
        have dh7:=eq_of_beq (e11.trans h7)
        cases h8:v12 with
        | true =>
         have dh8:=eq_of_beq (e12.trans h8)
         have r0:r=0:=by (rw [← hr];unfold zj;clear hr;(repeat' split)<;>first | rfl | omega | (exfalso;simp_all;done) | (exfalso;simp_all;omega))
         rw [r0];exact U [(4,false),(9,false),(13,false),(16,false),(17,false),(18,true),(14,true),(15,true)] ⟨congrArg pB h1,congrArg pB h2,congrArg pB h3,congrArg pB h4,congrArg pB h5,congrArg pB h6,congrArg pB h7,congrArg pB h8,trivial⟩ [(4,0),(6,5),(8,9),(10,12),(12,13),(14,14),(18,1),(19,10),(23,11)] 0 (by kernel_rfl)
        | false =>
         have dh8:=ne_of_beq_false (e12.trans h8)
         have r0:r=4:=by (rw [← hr];unfold zj;clear hr;(repeat' split)<;>first | rfl | omega | (exfalso;simp_all;done) | (exfalso;simp_all;omega))
         rw [r0];exact U [(4,false),(9,false),(13,false),(16,false),(17,false),(18,true),(14,true),(15,false)] ⟨congrArg pB h1,congrArg pB h2,congrArg pB h3,congrArg pB h4,congrArg pB h5,congrArg pB h6,congrArg pB h7,congrArg pB h8,trivial⟩ [(4,0),(6,5),(8,9),(10,12),(12,13),(14,14),(18,1),(19,10),(23,11)] 4 (by kernel_rfl)
       | false =>
        have dh7:=ne_of_beq_false (e11.trans h7)
        have r0:r=4:=by (rw [← hr];unfold zj;clear hr;(repeat' split)<;>first | rfl | omega | (exfalso;simp_all;done) | (exfalso;simp_all;omega))
        rw [r0];exact U [(4,false),(9,false),(13,false),(16,false),(17,false),(18,true),(14,false)] ⟨congrArg pB h1,congrArg pB h2,congrArg pB h3,congrArg pB h4,congrArg pB h5,congrArg pB h6,congrArg pB h7,trivial⟩ [(4,0),(6,5),(8,9),(10,12),(12,13),(14,14),(18,1),(19,10)] 4 (by kernel_rfl)
      | false =>
       have dh6:=ne_of_beq_false (e15.trans h6)
       cases h7:v16 with
       | true =>
        have dh7:=eq_of_beq (e16.trans h7)
        cases h8:v11 with
        | true =>
         have dh8:=eq_of_beq (e11.trans h8)
         cases h9:v12 with
         | true =>
          have dh9:=eq_of_beq (e12.trans h9)
          have r0:r=0:=by (rw [← hr];unfold zj;clear hr;(repeat' split)<;>first | rfl | omega | (exfalso;simp_all;done) | (exfalso;simp_all;omega))
          rw [r0];exact U [(4,false),(9,false),(13,false),(16,false),(17,false),(18,false),(19,true),(14,true),(15,true)] ⟨congrArg pB h1,congrArg pB h2,congrArg pB h3,congrArg pB h4,congrArg pB h5,congrArg pB h6,congrArg pB h7,congrArg pB h8,congrArg pB h9,trivial⟩ [(4,0),(6,5),(8,9),(10,12),(12,13),(14,14),(16,15),(20,1),(21,10),(25,11)] 0 (by kernel_rfl)
         | false =>
          have dh9:=ne_of_beq_false (e12.trans h9)
          have r0:r=4:=by (rw [← hr];unfold zj;clear hr;(repeat' split)<;>first | rfl | omega | (exfalso;simp_all;done) | (exfalso;simp_all;omega))
          rw [r0];exact U [(4,false),(9,false),(13,false),(16,false),(17,false),(18,false),(19,true),(14,true),(15,false)] ⟨congrArg pB h1,congrArg pB h2,congrArg pB h3,congrArg pB h4,congrArg pB h5,congrArg pB h6,congrArg pB h7,congrArg pB h8,congrArg pB h9,trivial⟩ [(4,0),(6,5),(8,9),(10,12),(12,13),(14,14),(16,15),(20,1),(21,10),(25,11)] 4 (by kernel_rfl)
        | false =>
         have dh8:=ne_of_beq_false (e11.trans h8)
         have r0:r=4:=by (rw [← hr];unfold zj;clear hr;(repeat' split)<;>first | rfl | omega | (exfalso;simp_all;done) | (exfalso;simp_all;omega))
         rw [r0];exact U [(4,false),(9,false),(13,false),(16,false),(17,false),(18,false),(19,true),(14,false)] ⟨congrArg pB h1,congrArg pB h2,congrArg pB h3,congrArg pB h4,congrArg pB h5,congrArg pB h6,congrArg pB h7,congrArg pB h8,trivial⟩ [(4,0),(6,5),(8,9),(10,12),(12,13),(14,14),(16,15),(20,1),(21,10)] 4 (by kernel_rfl)
       | false =>
        have dh7:=ne_of_beq_false (e16.trans h7)
        have r0:r=4:=by (rw [← hr];unfold zj;clear hr;(repeat' split)<;>first | rfl | omega | (exfalso;simp_all;done) | (exfalso;simp_all;omega))
        rw [r0];exact U [(4,false),(9,false),(13,false),(16,false),(17,false),(18,false),(19,false)] ⟨congrArg pB h1,congrArg pB h2,congrArg pB h3,congrArg pB h4,congrArg pB h5,congrArg pB h6,congrArg pB h7,trivial⟩ [(4,0),(6,5),(8,9),(10,12),(12,13),(14,14),(16,15)] 4 (by kernel_rfl)
theorem zgL (e:Xp) (a:Int):chkX e a=if zj e.op e.n e.l.length a≠0 then zj e.op e.n e.l.length a else chkL e.l a:=by cases e;rw [chkX];rfl
def za8 (w0:World) (N:Nat):Prop:=∀(x:Xp) (a v:Int),chkX x a=v→nodes x≤N→Fun (KN w0) Tryz.prog 131 [.o (.g [pI x.op,pI x.n,pLs cE x.l]),.o (.c (pI a))] (.o (.c (pI v)))
def zau:List Atom:=[.sl 1 3,.sl 16 2,.sl 17 6,.sl 18 7,.bx 0 60 [.h 0,.h 1,.h 2]]
def zbG:LoopS:=⟨5,zau.map (tnA (jf (hZ 7 [kI 0])) (kf []) (kf [])),(.x 0),(drs [3] zau)⟩
def zic:Tr:=.s [(0,.fb 5 false),(5000,.bin .lss 3 7 6)] (.b 8 (.s [(5001,.ia 58 60 3 2 7),(5002,.ld 60 3 9),(5007,.call 131 [.o (.g [10,11,12]),3] (.o .c)),(5010,.bin .neq 37 13 (kI 0))] (.b 14 (.z .no) (.s [(5011,.bin .add 3 7 (kI 1))] (.z (.nx (hZ 7 [15]) [] []))))) (.z (.xt (.x 0) (hZ 7 []) [] [])))
theorem zgC {w0:World} (e:Xp) (a:Int) (N:Nat) (v1:Int) (v2:Bool) (v4:Int) (IH:za8 w0 N) (h3:v2=false) (hb:e.l.length<9223372036854775808) (hN:nodes e≤N+1) (hlen:(e.l.length:Int)=v4) (hO:chkL e.l a=0):LpH (KN w0) Tryz.prog 131 ⟨ntOf Tryz.prog 131,[],[]⟩ zbG 0 ⟨7,[sI v4,sB v2,sI v1,sI a,.ls 3 cE kE e.l,sI e.n,sI e.op],[],[]⟩:=by
 refine zi _ ⟨zau,zbG,(8,0,0),(7,0,0),5000⟩ (T:=Int) (fun t=>⟨8,[sI t,sI v4,sB v2,sI v1,sI a,.ls 3 cE kE e.l,sI e.n,sI e.op],[],[]⟩) (fun i=>∃k:Nat,i=(k:Int)∧k≤e.l.length∧chkL (e.l.drop k) a=0) (fun i=>((e.l.length:Int) - i).toNat) (0:Int) (hZ 7 [kI 0]) [] [] zic mixed ⟨0,rfl,Nat.zero_le _,by rw [List.drop_zero];exact hO⟩ rfl rfl rfl rfl (fun _=>rfl) rfl rfl (by kernel_rfl) ?_
 intro i hJ
 obtain ⟨k,hi,hk,hs⟩:=hJ
 refine ai h3 ?_
 intro v501 e501
 refine ai (fun h502=>?_) fun h502=>?_
 ·
  refine ai (by (have dh502:=LD e501 h502;have hz:=hlen;have hlt:k<e.l.length:=(by omega);exact ⟨k,_,hi,List.getElem?_eq_getElem hlt⟩)) fun n503 x504 s505 s506=>?_
  obtain ⟨v507,e507⟩:=LX (chkX x504 a)
  have s508:nodes x504≤N:=by exact zA hN s506
  refine cx (.o (.c (sI v507))) (IH x504 a v507 e507 s508) rfl ?_
  intro v509 e509
  refine ai (fun h510=>?_) fun h510=>?_
  ·
   exfalso
   have dh502:=LD e501 h502;have dh510:=bne_iff_ne.1 (e509.trans h510);have hz:=hlen;have hkn:n503=k:=(by omega);subst hkn;have hd:=zbN s506 a;rw [e507] at hd;rw [if_pos dh510,hs] at hd;exact dh510 hd.symm
  ·
   intro v511 e511
   refine nxl v511 ?_ ?_ rfl
   all_goals (have dh502:=LD e501 h502;have dh510:=bne_eq_false_iff_eq.1 (e509.trans h510);have hz:=hlen;have hkn:n503=k:=(by omega);subst hkn;have hd:=zbN s506 a;rw [e507] at hd;rw [if_neg (by simpa using dh510)] at hd;have hlt:n503<e.l.length:=(List.getElem?_eq_some_iff.1 s506).1;have x3:v511=((n503+1:Nat):Int):=(by rw [← e511,hi,wri (by omega)];omega))
   ·show ((e.l.length:Int) - v511).toNat<((e.l.length:Int) - i).toNat
    omega
   ·exact ⟨n503+1,x3,by omega,by rw [← hd];exact hs⟩
 ·
  rfl
def zav:List Atom:=[.sl 1 3,.sl 16 2,.sl 17 6,.sl 18 7,.bx 0 60 [.h 0,.h 1,.h 2]]
def zbH:LoopS:=⟨5,zav.map (tnA (jf (hZ 7 [kI 0])) (kf []) (kf [])),.r,(drs [3] zav)++[.sl 4 7]⟩
def zid:Tr:=.s [(0,.fb 5 false),(5000,.bin .lss 3 7 6)] (.b 8 (.s [(5001,.ia 58 60 3 2 7),(5002,.ld 60 3 9),(5007,.call 131 [.o (.g [10,11,12]),3] (.o .c)),(5010,.bin .neq 37 13 (kI 0))] (.b 14 (.z (.xt .r (hZ 7 [13]) [] [])) (.s [(5011,.bin .add 3 7 (kI 1))] (.z (.nx (hZ 7 [15]) [] []))))) (.z .no))
theorem zgD {w0:World} (e:Xp) (a:Int) (N:Nat) (v1:Int) (v2:Bool) (v4:Int) (IH:za8 w0 N) (h3:v2=false) (o:Int) (hb:e.l.length<9223372036854775808) (hN:nodes e≤N+1) (hlen:(e.l.length:Int)=v4) (hne:o≠0) (hO:chkL e.l a=o):LpH (KN w0) Tryz.prog 131 ⟨ntOf Tryz.prog 131,[],[]⟩ zbH 0 ⟨8,[sI o,sI v4,sB v2,sI v1,sI a,.ls 3 cE kE e.l,sI e.n,sI e.op],[],[]⟩:=by
 refine zi _ ⟨zav,zbH,(8,0,0),(8,0,0),5000⟩ (T:=Int) (fun t=>⟨8,[sI t,sI v4,sB v2,sI v1,sI a,.ls 3 cE kE e.l,sI e.n,sI e.op],[],[]⟩) (fun i=>∃k:Nat,i=(k:Int)∧k≤e.l.length∧chkL (e.l.drop k) a=o) (fun i=>((e.l.length:Int) - i).toNat) (0:Int) (hZ 7 [kI 0]) [] [] zid mixed ⟨0,rfl,Nat.zero_le _,by rw [List.drop_zero];exact hO⟩ rfl rfl rfl rfl (fun _=>rfl) rfl rfl (by kernel_rfl) ?_
 intro i hJ
 obtain ⟨k,hi,hk,hs⟩:=hJ
 refine ai h3 ?_
 intro v501 e501
 refine ai (fun h502=>?_) fun h502=>?_
 ·
  refine ai (by (have dh502:=LD e501 h502;have hz:=hlen;have hlt:k<e.l.length:=(by omega);exact ⟨k,_,hi,List.getElem?_eq_getElem hlt⟩)) fun n503 x504 s505 s506=>?_
  obtain ⟨v507,e507⟩:=LX (chkX x504 a)
  have s508:nodes x504≤N:=by exact zA hN s506
  refine cx (.o (.c (sI v507))) (IH x504 a v507 e507 s508) rfl ?_
  intro v509 e509
  refine ai (fun h510=>?_) fun h510=>?_
  ·
   have hq:((v507)=o)∧True:=by
    refine ⟨?_,trivial⟩
    have dh502:=LD e501 h502;have dh510:=bne_iff_ne.1 (e509.trans h510);have hz:=hlen;have hkn:n503=k:=(by omega);subst hkn;have hd:=zbN s506 a;rw [e507] at hd;rw [if_pos dh510,hs] at hd;exact hd.symm
   obtain ⟨q0,-⟩:=hq
   rw [← q0]
   rfl
  ·
   intro v511 e511
   refine nxl v511 ?_ ?_ rfl
   all_goals (have dh502:=LD e501 h502;have dh510:=bne_eq_false_iff_eq.1 (e509.trans h510);have hz:=hlen;have hkn:n503=k:=(by omega);subst hkn;have hd:=zbN s506 a;rw [e507] at hd;rw [if_neg (by simpa using dh510)] at hd;have hlt:n503<e.l.length:=(List.getElem?_eq_some_iff.1 s506).1;have x3:v511=((n503+1:Nat):Int):=(by rw [← e511,hi,wri (by omega)];omega))
   ·show ((e.l.length:Int) - v511).toNat<((e.l.length:Int) - i).toNat
    omega
   ·exact ⟨n503+1,x3,by omega,by rw [← hd];exact hs⟩
 ·
  exfalso
  have dh502:=LE e501 h502;have hz:=hlen;have hkl:k=e.l.length:=(by omega);rw [hkl,List.drop_length,chkL] at hs;exact hne hs.symm
def zie:Tr:=.s [(4,.call 153 [.o (.g [0,1,2]),3] (.o .c)),(7,.bin .neq 37 4 (kI 0))] (.b 5 (.z (.ret false (4) [])) (.s [(10,.ln 58 3 2)] (.r (.s [(0,.lp zbG 0 0)] (.z (.ret false (LF (kI 0)) []))) (.s [(0,.lp zbH 0 1)] (.z (.ret false (7) []))))))
theorem zmZ {w0:World} {N:Nat} (IH:za8 w0 N) (e:Xp) (a:Int) (r:Int) (hr:chkX e a=r) (hN:nodes e≤N+1) (hN1:N+1≤1000000):Fun (KN w0) Tryz.prog 131 [.o (.g [pI e.op,pI e.n,pLs cE e.l]),.o (.c (pI a))] (.o (.c (pI r))):=by
 refine tfn w0 131 ⟨[.o (.g [0,1,2]),3],[],[],0,0⟩ ⟨4,[sI a,.ls 3 cE kE e.l,sI e.n,sI e.op],[],[]⟩ zie (by kernel_rfl) ?_
 obtain ⟨v1,e1⟩:=LX (zj e.op e.n e.l.length a)
 refine cx (.o (.c (sI v1))) (zoM e a v1 e1) rfl ?_
 intro v2 e2
 refine ai (fun h3=>?_) fun h3=>?_
 ·
  intro hc
  refine Fun.fin (r:=.o (.c (pI v1))) (zc (hc)) (fun v W D h=>?_)
  have r0:r=v1:=by
   rw [← hr,zgL,e1,if_pos (bne_iff_ne.1 (e2.trans h3))]
  rw [r0];exact h
 ·
  intro v4 e4
  by_cases c5:chkL e.l a=0
  ·
   refine Or.inl ?_
   refine rx [] [] [] (zgC e a N v1 v2 v4 IH  h3   (by have:=qv e;omega) hN e4 c5) ?_
   intro hc
   refine Fun.fin (r:=.o (.c (pV (.int .i64 0)))) (zc (hc)) (fun v W D h=>?_)
   have r0:r=(0:Int):=by
    rw [← hr,zgL,e1,if_neg (by simpa using (bne_eq_false_iff_eq.1 (e2.trans h3))),c5]
   rw [r0];exact h
  ·
   refine Or.inr ?_
   obtain ⟨o,hO_x_check_B⟩:∃(o:Int),chkL e.l a=o:=⟨_,rfl⟩
   refine rx [sI o] [] [] (zgD e a N v1 v2 v4 IH  h3 o  (by have:=qv e;omega) hN e4 (by rw [← hO_x_check_B];exact c5) hO_x_check_B) ?_
   intro hc
   refine Fun.fin (r:=.o (.c (pI o))) (zc (hc)) (fun v W D h=>?_)
   have r0:r=o:=by
    rw [← hr,zgL,e1,if_neg (by simpa using (bne_eq_false_iff_eq.1 (e2.trans h3))),hO_x_check_B]
   rw [r0];exact h
theorem zdE {w0:World}:∀N:Nat,N≤1000000→za8 w0 N
 | 0,_=>fun x a v _ h=>by have:=zag x;omega
 | N+1,hN=>fun x a v hv h=>zmZ (zdE N (by omega)) x a v hv h hN
theorem zrr {w0:World} (x:Xp) (a v:Int) (hv:chkX x a=v) (hn:nodes x≤1000000):Fun (KN w0) Tryz.prog 131 [.o (.g [pI x.op,pI x.n,pLs cE x.l]),.o (.c (pI a))] (.o (.c (pI v))):=zdE (nodes x) hn x a v hv (Nat.le_refl _)
def zmV:Tr:=.s [(3,.call 130 [.o (.g [0,1,2]),LF (kI 30)] (.o .c)),(4,.bin .gtr 3 4 (kI 30))] (.b 5 (.z (.ret false (LF (kI 2)) [])) (.s [(7,.call 131 [.o (.g [0,1,2]),3] (.o .c))] (.z (.ret false (6) []))))
theorem zdD {w0:World} (e:Xp) (a:Int) (r:Int) (hr:z6 e a=r) (hn:nodes e≤1000000):Fun (KN w0) Tryz.prog 106 [.o (.g [pI e.op,pI e.n,pLs cE e.l]),.o (.c (pI a))] (.o (.c (pI r))):=by
 refine tfn w0 106 ⟨[.o (.g [0,1,2]),3],[],[],0,0⟩ ⟨4,[sI a,.ls 3 cE kE e.l,sI e.n,sI e.op],[],[]⟩ zmV (by kernel_rfl) ?_
 obtain ⟨v1,e1⟩:=LX (sizeX e (30:Int))
 have s2:nodes e≤1000000:=by exact hn
 have s3:0≤(30:Int)∧(30:Int)≤1000:=by omega
 refine cx (.o (.c (sI v1))) (zsH e (30:Int) v1 e1 s2 s3) rfl ?_
 intro v4 e4
 refine ai (fun h5=>?_) fun h5=>?_
 ·
  intro hc
  refine Fun.fin (r:=.o (.c (pV (.int .i64 2)))) (zc (hc)) (fun v W D h=>?_)
  have r0:r=(2:Int):=by
   have dh5:=LD e4 h5;have hz:=e1;rw [← hr];unfold z6;rw [if_pos (by omega)]
  rw [r0];exact h
 ·
  obtain ⟨v6,e6⟩:=LX (chkX e a)
  have s7:nodes e≤1000000:=by exact hn
  refine cx (.o (.c (sI v6))) (zrr e a v6 e6 s7) rfl ?_
  intro hc
  refine Fun.fin (r:=.o (.c (pI v6))) (zc (hc)) (fun v W D h=>?_)
  have r0:r=v6:=by
   have dh5:=LE e4 h5;have hz:=e1;rw [← hr];unfold z6;rw [if_neg (by omega)];simp_all
  rw [r0];exact h
mutual
def evR (args:List Int):Xp→Int×Bool
 | .mk o n l=>if o=1 then (n,true) else if o=2 then (args.getD n.toNat 0,valB (args.getD n.toNat 0)) else match evRL args l with
  | [a,b]=>if a.2=true∧b.2=true then (operX o a.1 b.1,valB (operX o a.1 b.1)) else (0,false)
  | _=>(0,false)
def evRL (args:List Int):List Xp→List (Int×Bool)
 | []=>[]
 | x::r=>evR args x::evRL args r
end
theorem zsI {args:List Int} {k:Int}:∀{e:Xp},Vx k e→((evR args e).2=true→evalX args e=some (evR args e).1)∧((evR args e).2=false→evalX args e=none):=by
 intro e h
 induction h with
 | num h=>rw [zc2,evR,if_pos rfl];exact ⟨fun _=>by unfold valO;rw [if_pos h],fun h=>by cases h⟩
 | arg h0 h1 =>
  rw [zc1,evR,if_neg (by decide),if_pos rfl]
  exact ⟨fun h=>by unfold valO;rw [if_pos h],fun h=>by unfold valO;rw [if_neg (by simp at h;simp [h])]⟩
 | @op o x y h0 h1 ha hb iha ihb =>
  rw [zcH args h0,evR,if_neg (by omega),if_neg (by omega),evRL,evRL,evRL]
  cases hx:(evR args x).2 with
  | false=>rw [iha.2 hx];simp [hx]
  | true =>
   cases hy:(evR args y).2 with
   | false=>rw [iha.1 hx,ihb.2 hy];simp [hx,hy]
   | true =>
    rw [iha.1 hx,ihb.1 hy]
    simp only [hx,hy,and_self,if_true]
    exact ⟨fun h=>by unfold valO;rw [if_pos h],fun h=>by unfold valO;rw [if_neg (by simp [h])]⟩
theorem zpV {args:List Int} {k:Int} {e:Xp} (h:Vx k e) (ho:e.op=2):0≤e.n∧e.n<k∧evR args e=(args.getD e.n.toNat 0,valB (args.getD e.n.toNat 0)):=by
 cases h with
 | num h=>cases ho
 | arg h0 h1=>exact ⟨h0,Int.lt_of_lt_of_le h1 (Int.min_le_left ..),by rw [evR,if_neg (by decide),if_pos rfl];rfl⟩
 | op h0 h1 _ _=>simp only [Xp.op] at ho;omega
theorem vx_op {k:Int} {e:Xp} (h:Vx k e) (h1:¬ e.op=1) (h2:¬ e.op=2):∃a b,e=.mk e.op 0 [a,b]∧3≤e.op∧e.op≤7∧Vx k a∧Vx k b:=by
 cases h with
 | num h=>exact absurd rfl h1
 | arg h0 _=>exact absurd rfl h2
 | op h0 h3 ha hb=>exact ⟨_,_,rfl,h0,h3,ha,hb⟩
theorem vx_at {k:Int} {e x:Xp} {n:Nat} (h:Vx k e) (hx:e.l[n]?=some x):Vx k x:=by
 cases h with
 | num h=>simp [Xp.l] at hx
 | arg h0 _=>simp [Xp.l] at hx
 | op h0 h3 ha hb =>
  match n,hx with
  | 0,h=>injection h with h;exact h ▸ ha
  | 1,h=>injection h with h;exact h ▸ hb
  | _+2,h=>simp [Xp.l] at h
theorem zaB {k:Int} {e:Xp} {n m:Nat} (h:Vx k e) (h1:¬ e.op=1) (h2:¬ e.op=2):∃a b,e.l[0]?=some a∧e.l[1]?=some b:=by
 obtain ⟨a,b,he,_⟩:=vx_op h h1 h2
 exact ⟨a,b,by rw [he];rfl,by rw [he];rfl⟩
theorem zg3 {l:List Int} {n:Nat} {x i:Int} (hi:i=n) (h:l[n]?=some x):l.getD i.toNat 0=x:=by subst hi;rw [Int.toNat_natCast,List.getD_eq_getElem?_getD,h];rfl
theorem op_in {a b:Int} (o:Int) (ha:valB a=true) (hb:valB b=true):-9223372036854775808≤operX o a b∧operX o a b<9223372036854775808:=by
 have h1:=zcc.1 ha
 have h2:=zcc.1 hb
 have h3:(a*b).natAbs≤1048576*1048576:=by rw [Int.natAbs_mul];exact Nat.mul_le_mul (by omega) (by omega)
 unfold operX
 (repeat' split)<;>omega
end Go.Proofs.YteimplkdcjapdaaGreatDoor
