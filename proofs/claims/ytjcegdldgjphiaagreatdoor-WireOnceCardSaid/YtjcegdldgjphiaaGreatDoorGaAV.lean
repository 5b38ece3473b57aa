/-
  Merged: SymZ, WrB, WrC, WrRd.
-/
import Derived.Test.YtjcegdldgjphiaaGreatDoorGaAU
import Derived.Laws.IdiomStrings
import Derived.Laws.BytesArg
import Derived.Test.YtjcegdldgjphiaaGreatDoorGaAT
import Derived.Test.YtjcegdldgjphiaaGreatDoorGaAN
set_option linter.unusedSimpArgs false
set_option linter.unusedVariables false
set_option maxRecDepth 100000
namespace Go.Proofs.YtjcegdldgjphiaaGreatDoor
open Go.RowKit
def cB (x:UInt8):List Pred:=[pV (.int .u8 (x.toNat:Int))]
theorem zcA (x:UInt8):(cB x).length=1:=rfl
section
variable {K:Kit} {P:Program} {F:Fact}
theorem zv (hb:K.bad .u8=false) (x:UInt8):FineAll K (cB x):=⟨zb (by simp [Kit.ck,ckf,hb]),trivial⟩
theorem zcG {W:World} {D:Dat}:∀{l:List UInt8} {vs:List Value},okl (l.flatMap cB) vs W D→vs=l.map fun b=>Value.int .u8 (b.toNat:Int)
 | [],[],_=>rfl
 | b::l,v::vs,h=>by
  rw [List.flatMap_cons] at h
  obtain ⟨h1,h2⟩:=h
  have e:v=.int .u8 (b.toNat:Int):=h1
  rw [e,zcG h2];rfl
 | [],_::_,h=>h.elim
 | _::_,[],h=>h.elim
theorem zgg {W:World} {q:Nat} {us:Array Value} {T:TypeId} {fz:Nat×Nat} {l:List UInt8} (hh:W.heap[q]?=some (.cells us T fz)) (h:us.toList.take l.length=l.map fun b=>Value.int .u8 (b.toNat:Int)):∀j (hj:j<l.length),W.cell? ((⟨q,0,none⟩:Addr).add j)=some (.int .u8 (l[j].toNat:Int)):=by
 intro j hj
 rw [show (⟨q,0,none⟩:Addr).add j=⟨q,0+j,none⟩ from zat ..,Nat.zero_add,zaj hh]
 have h1:(us.toList.take l.length)[j]?=some (.int .u8 (l[j].toNat:Int)):=by rw [h];simp [hj]
 rw [List.getElem?_take_of_lt hj] at h1
 simpa using h1
theorem zoa {S T E:TypeId} {b n:Nat} {l:List UInt8} {o:Lf} (hS:P.underlying S=some (.slice E)) (hE:P.underlying E=some (.int .u8)) (hT:P.underlying T=some .string) (hn:F.g n=pG cB l) (ho:Gives F o (.string ⟨l.toArray⟩)):Ent.sound K P F (.op (.cv S T) [LF (.gr b)] [.gl b E 1 n] (LF o)):=by
 intro β W vs hs hpre _
 match vs,hs with
 | [v],⟨h1,_⟩ =>
  have hv:v=gv β b:=h1
  obtain ⟨cap,h⟩:=zhC zcA (by decide) hn (hpre _ (List.mem_cons_self ..))
  refine ⟨.string ⟨l.toArray⟩,?_,(ho β _ W).2 rfl⟩
  show (convert S T v).run P W=_
  rcases h with ⟨h2,_,rfl⟩ | ⟨g,cur,_,h2,hh,_,hok⟩
  ·rw [hv,h2]
   simp [convert,run_underlying hS,run_underlying hE,run_underlying hT,Conv.bytesToString]
   rfl
  ·rw [hv,h2]
   rw [Nat.mul_one] at hok
   exact run_convert_bytes_back W S T E ⟨g,0,none⟩ cap l hS hE hT (zgg hh (zcG hok))
 | [],h=>exact h.elim
 | _::_::_,h=>exact h.2.elim
end
theorem zjJ {α:Type} {c:α→List Pred} {v:Value} {W:World} {D:Dat} (h:pV (.slice none 0 0) v W D):pLs c ([]:List α) v W D:=.inl ⟨⟨_,_,h⟩,rfl,rfl⟩
end Go.Proofs.YtjcegdldgjphiaaGreatDoor
namespace Go.Proofs.YtjcegdldgjphiaaGreatDoor
open Go.RowKit Go.Shelf
def bI (x:Int):UInt8:=dg7 x.toNat
theorem zn3 {x:Int} (h:0≤x∧x<256):((bI x).toNat:Int)=x:=by
 unfold bI
 rw [zdQ (by omega)];omega
theorem bI_ok {x:Int} (h:0≤x∧x<256):∀vs W D,okl [pV (.int .u8 x)] vs W D→okl (cB (bI x)) vs W D:=by
 intro vs W D h1
 unfold cB
 rw [zn3 h];exact h1
theorem zhw {o l:List UInt8} {c:Nat} (h:o++encN c=l) (hc:c<128):o=l.dropLast∧(c:Int)=((l.getLast?.getD 0).toNat:Int):=by
 subst h
 rw [qx hc]
 refine ⟨by simp,?_⟩
 rw [List.getLast?_append]
 simp [zdQ (show c<256 by omega)]
theorem wrap8 (c:Nat):IntKind.u8.wrap (c:Int)=((c%256:Nat):Int):=by rw [wu8];omega
theorem fd7 (c:Nat):((c:Int)).fdiv (2 ^ min ((7:Int):Int).toNat IntKind.u64.bits)=((c / 128:Nat):Int):=by
 show ((c:Int)).fdiv 128=_
 rw [Int.fdiv_eq_ediv_of_nonneg _ (by decide)];omega
structure wi_T where
 code:Int
 o:(List UInt8)
def zb9:List Atom:=[.sl 0 (.o (.c (.h 0))),.sl 2 (.o (.c (.k (.string ⟨#[]⟩)))),.sl 3 (.o (.c (.h 5004))),.sl 4 (.o (.c (.gr 900))),.sl 5 (.o (.c (.h 0))),.sl 6 (.o (.c (.h 5000))),.sl 7 (.o (.c (.h 5001))),.sl 8 (.o (.c (.h 0))),.sl 9 (.o (.c (.h 1))),.sl 10 (.o (.c (.h 5002))),.sl 11 (.o (.c (.h 5003))),.gl 900 5 1 1]
def wi_S:LoopS:=⟨3,[.sl 0 (.o (.c (.h 0))),.sl 2 (.o (.c (.k (.string ⟨#[]⟩)))),.sl 3 (.o (.c (.h 5003))),.sl 4 (.o (.c (.gr 900))),.sl 5 (.o (.c (.h 0))),.sl 6 (.o (.c (.h 5000))),.sl 7 (.o (.c (.h 5001))),.sl 8 (.o (.c (.h 0))),.sl 9 (.o (.c (.h 1))),.sl 10 (.o (.c (.h 5002))),.sl 11 (.o (.c (.h 5003))),.gl 900 5 1 0],(.x 0),[.sl 0 (.o (.c (.h 0))),.sl 2 (.o (.c (.k (.string ⟨#[]⟩)))),.sl 3 (.o (.c (.h 5004))),.sl 4 (.o (.c (.gr 900))),.sl 5 (.o (.c (.h 0))),.sl 6 (.o (.c (.h 5000))),.sl 7 (.o (.c (.h 5001))),.sl 8 (.o (.c (.h 0))),.sl 9 (.o (.c (.h 1))),.sl 10 (.o (.c (.h 5002))),.sl 11 (.o (.c (.h 5003))),.gl 900 5 1 1]⟩
theorem wi_r0 {w0:World} (n:Int) (v1:Int) (v2:Int) (v3:Int) (v4:Int) (v5:Int) (code:Int) (o:(List UInt8)) (v501:Bool) (v503:Int) (v504:Int) (v506:(List UInt8)) (v508:Int) (e501:(decide (code ≥ (128:Int)))=v501) (e503:(IntKind.u8.wrap code)=v503) (e504:(IntKind.u8.wrap (BitVec.ofInt IntKind.u8.bits v503 ||| BitVec.ofInt IntKind.u8.bits (128:Int)).toNat)=v504) (e506:(o++[bI v504])=v506) (e508:((code:Int).fdiv (2 ^ min ((7:Int):Int).toNat IntKind.u64.bits))=v508) (h502:v501=true) (s505:0≤v504∧v504<256) (s507:(o.length+1)*1≤1099511627776) (code':Int) (o':(List UInt8)) (q0:(v508)=code') (q1:(v506)=o') (R:Frm) (hR:R.pm=⟨ntOf Tryz.prog 12,[],[]⟩):Goes (KN w0) Tryz.prog R (lp Tryz.prog 12 0) (FL [pI n,pI v3] [pG cB ([]:List UInt8),pG cB o] [(5000,pV (.int .u64 v1)),(5001,pV (.int .u64 v2)),(5002,pV (.int .u64 v4)),(5003,pV (.int .u64 v5)),(5004,pV (.int .u64 code))]) zb9 .n (FL [pI n,pI v3] [pG cB ([]:List UInt8),pG cB o'] [(5000,pV (.int .u64 v1)),(5001,pV (.int .u64 v2)),(5002,pV (.int .u64 v4)),(5003,pV (.int .u64 v5)),(5004,pV (.int .u64 code'))]) zb9:=
 goes (x:=.n) (y:=.n) (Fb:=FL [pI n,pI v3,pB v501,pV (.int .u8 v503),pV (.int .u8 v504)] [pG cB ([]:List UInt8),pG cB o,pG cB v506] [(5000,pV (.int .u64 v1)),(5001,pV (.int .u64 v2)),(5002,pV (.int .u64 v4)),(5003,pV (.int .u64 v5)),(5004,pV (.int .u64 code)),(5005,pV (.int .u64 v508))]) (stb:=zb9) (tl:=[.sl 0 (.o (.c (.h 0))),.sl 2 (.o (.c (.k (.string ⟨#[]⟩)))),.sl 3 (.o (.c (.h 5005))),.sl 4 (.o (.c (.gr 900))),.sl 5 (.o (.c (.h 0))),.sl 6 (.o (.c (.h 5000))),.sl 7 (.o (.c (.h 5001))),.sl 8 (.o (.c (.h 0))),.sl 9 (.o (.c (.h 1))),.sl 10 (.o (.c (.h 5002))),.sl 11 (.o (.c (.h 5003))),.gl 900 5 1 2]) (C:=((1005001,.bin .geq 72 (LF (.h 5004)) (LF (.k (.int .u64 128))) (LF (.h 2))) ::
  (10002,.fb 2 true) ::
  (1005004,.op (.cv 72 5) [LF (.h 5004)] [] (LF (.h 3))) ::
  (1005005,.bin .or 5 (LF (.h 3)) (LF (.k (.int .u8 128))) (LF (.h 4))) ::
  (1005007,.app 5 1 900 1 2 (.o (.c (.s 5006 0 1 1))) [.bx 5006 5 [.h 4]] false) ::
  (1005010,.bin .shr 72 (LF (.h 5004)) (LF (.k (.int .u64 7))) (LF (.h 5005))) ::
  []:List (Nat×Ent))) (H:=.no) 5000 (zipA.imp ⟨z_c (fun _ _ _ h=>h),z_c (fun _ _ _ h=>h),z_c (fun _ _ _ h=>h),z_c (fun _ _ _ h=>h),z_c (fun _ _ _ h=>h),z_c (fun _ _ _ h=>h),z_c (fun _ _ _ h=>h),z_c (fun _ _ _ h=>h),z_c (fun _ _ _ h=>h),z_c (fun _ _ _ h=>h),z_c (fun _ _ _ h=>h),z_gl (fun _ _ _ h=>h),trivial⟩) (zf ⟨zb rfl,zb rfl,zb rfl,zb rfl,zb rfl,trivial⟩ ⟨(zm (zv rfl)),(zm (zv rfl)),(zm (zv rfl)),trivial⟩ ⟨⟨rfl,zh⟩,⟨rfl,zh⟩,⟨rfl,zh⟩,⟨rfl,zh⟩,⟨rfl,zh⟩,⟨rfl,zh⟩,trivial⟩) ⟨e_bin (za rfl) zd (za rfl) (r_cmp (congrArg some e501)),
  e_fb (show pV (.bool v501)=_ by rw [h502]),
  e_op1 (za rfl) (za rfl) (fun W=>by rw [← e503];exact r_cvi (by kernel_rfl) (by kernel_rfl) W),
  e_bin (za rfl) zd (za rfl) (zL (congrArg some e504)),
  zht (c:=cB) (x:=bI v504) (zv rfl) zcA (.inr ⟨rfl,rfl⟩) (by rw [e506];rfl) rfl (bI_ok s505) rfl s507,
  e_bin (za rfl) zd (za rfl) (fun W X Y=>by rw [← e508];exact r_shr (by decide) W X Y),
  trivial⟩ mixed hR trivial (fun _ _ _ hs=>by cases hs) (by kernel_rfl:zz (KN w0) Tryz.prog _ .no ⟨ntOf Tryz.prog 12,[],[]⟩ (lp Tryz.prog 12 0) 5000 zb9 .n [.sl 0 (.o (.c (.h 0))),.sl 2 (.o (.c (.k (.string ⟨#[]⟩)))),.sl 3 (.o (.c (.h 5005))),.sl 4 (.o (.c (.gr 900))),.sl 5 (.o (.c (.h 0))),.sl 6 (.o (.c (.h 5000))),.sl 7 (.o (.c (.h 5001))),.sl 8 (.o (.c (.h 0))),.sl 9 (.o (.c (.h 1))),.sl 10 (.o (.c (.h 5002))),.sl 11 (.o (.c (.h 5003))),.gl 900 5 1 2]=true) rfl (zipA.imp ⟨z_c (fun _ _ _ h=>h),z_c (fun _ _ _ h=>h),z_c (fun β v W h=>(zc rfl β v W).2 (by rw [← q0];exact h)),z_c (fun _ _ _ h=>h),z_c (fun _ _ _ h=>h),z_c (fun _ _ _ h=>h),z_c (fun _ _ _ h=>h),z_c (fun _ _ _ h=>h),z_c (fun _ _ _ h=>h),z_c (fun _ _ _ h=>h),z_c (fun _ _ _ h=>h),z_gq rfl (by rw [q1];rfl),trivial⟩)
theorem wi_r1 {w0:World} (n:Int) (v1:Int) (v2:Int) (v3:Int) (v4:Int) (v5:Int) (code:Int) (o:(List UInt8)) (v501:Bool) (e501:(decide (code ≥ (128:Int)))=v501) (h502:v501=false) (c2:Int) (o2:(List UInt8)) (F:Fact) (u0:F.c 0=pI n) (u1:F.c 1=pI v3) (u5000:F.c 5000=pV (.int .u64 v1)) (u5001:F.c 5001=pV (.int .u64 v2)) (u5002:F.c 5002=pV (.int .u64 v4)) (u5003:F.c 5003=pV (.int .u64 v5)) (u5004:F.c 5004=pV (.int .u64 c2)) (ug0:F.g 0=pG cB ([]:List UInt8)) (ug1:F.g 1=pG cB o2) (q0:(code)=c2) (q1:(o)=o2) (R:Frm) (hR:R.pm=⟨ntOf Tryz.prog 12,[],[]⟩):Goes (KN w0) Tryz.prog R (lp Tryz.prog 12 0) (FL [pI n,pI v3] [pG cB ([]:List UInt8),pG cB o] [(5000,pV (.int .u64 v1)),(5001,pV (.int .u64 v2)),(5002,pV (.int .u64 v4)),(5003,pV (.int .u64 v5)),(5004,pV (.int .u64 code))]) zb9 (.x 0) F wi_S.out:=
 goes (x:=(.x 0)) (y:=(.x 0)) (Fb:=FL [pI n,pI v3,pB v501] [pG cB ([]:List UInt8),pG cB o] [(5000,pV (.int .u64 v1)),(5001,pV (.int .u64 v2)),(5002,pV (.int .u64 v4)),(5003,pV (.int .u64 v5)),(5004,pV (.int .u64 code))]) (stb:=zb9) (tl:=[.sl 0 (.o (.c (.h 0))),.sl 2 (.o (.c (.k (.string ⟨#[]⟩)))),.sl 3 (.o (.c (.h 5004))),.sl 4 (.o (.c (.gr 900))),.sl 5 (.o (.c (.h 0))),.sl 6 (.o (.c (.h 5000))),.sl 7 (.o (.c (.h 5001))),.sl 8 (.o (.c (.h 0))),.sl 9 (.o (.c (.h 1))),.sl 10 (.o (.c (.h 5002))),.sl 11 (.o (.c (.h 5003))),.gl 900 5 1 1]) (C:=((1005001,.bin .geq 72 (LF (.h 5004)) (LF (.k (.int .u64 128))) (LF (.h 2))) ::
  (10002,.fb 2 false) ::
  []:List (Nat×Ent))) (H:=.no) 5000 (zipA.imp ⟨z_c (fun _ _ _ h=>h),z_c (fun _ _ _ h=>h),z_c (fun _ _ _ h=>h),z_c (fun _ _ _ h=>h),z_c (fun _ _ _ h=>h),z_c (fun _ _ _ h=>h),z_c (fun _ _ _ h=>h),z_c (fun _ _ _ h=>h),z_c (fun _ _ _ h=>h),z_c (fun _ _ _ h=>h),z_c (fun _ _ _ h=>h),z_gl (fun _ _ _ h=>h),trivial⟩) (zf ⟨zb rfl,zb rfl,zb rfl,trivial⟩ ⟨(zm (zv rfl)),(zm (zv rfl)),trivial⟩ ⟨⟨rfl,zh⟩,⟨rfl,zh⟩,⟨rfl,zh⟩,⟨rfl,zh⟩,⟨rfl,zh⟩,trivial⟩) ⟨e_bin (za rfl) zd (za rfl) (r_cmp (congrArg some e501)),
  e_fb (show pV (.bool v501)=_ by rw [h502]),
  trivial⟩ mixed hR trivial (fun _ _ _ hs=>by cases hs) (by kernel_rfl:zz (KN w0) Tryz.prog _ .no ⟨ntOf Tryz.prog 12,[],[]⟩ (lp Tryz.prog 12 0) 5000 zb9 (.x 0) [.sl 0 (.o (.c (.h 0))),.sl 2 (.o (.c (.k (.string ⟨#[]⟩)))),.sl 3 (.o (.c (.h 5004))),.sl 4 (.o (.c (.gr 900))),.sl 5 (.o (.c (.h 0))),.sl 6 (.o (.c (.h 5000))),.sl 7 (.o (.c (.h 5001))),.sl 8 (.o (.c (.h 0))),.sl 9 (.o (.c (.h 1))),.sl 10 (.o (.c (.h 5002))),.sl 11 (.o (.c (.h 5003))),.gl 900 5 1 1]=true) rfl (zipA.imp ⟨z_c (fun β v W h=>(zc u0 β v W).2 h),z_c (fun _ _ _ h=>h),z_c (fun β v W h=>(zc u5004 β v W).2 (by rw [← q0];exact h)),z_c (fun _ _ _ h=>h),z_c (fun β v W h=>(zc u0 β v W).2 h),z_c (fun β v W h=>(zc u5000 β v W).2 h),z_c (fun β v W h=>(zc u5001 β v W).2 h),z_c (fun β v W h=>(zc u0 β v W).2 h),z_c (fun β v W h=>(zc u1 β v W).2 h),z_c (fun β v W h=>(zc u5002 β v W).2 h),z_c (fun β v W h=>(zc u5003 β v W).2 h),z_gq rfl (by rw [q1];exact ug1),trivial⟩)
def wi_X (n:Int) (v1:Int) (v2:Int) (v3:Int) (v4:Int) (v5:Int) (t:wi_T) (c2:Int) (o2:(List UInt8)):Prop:=(∃(v501:Bool),((decide (t.code ≥ (128:Int)))=v501)∧(v501=false)∧((t.code)=c2)∧((t.o)=o2)∧True)
def wi_N (n:Int) (v1:Int) (v2:Int) (v3:Int) (v4:Int) (v5:Int) (t t':wi_T):Prop:=(∃(v501:Bool),∃(v503:Int),∃(v504:Int),∃(v506:(List UInt8)),∃(v508:Int),((decide (t.code ≥ (128:Int)))=v501)∧((IntKind.u8.wrap t.code)=v503)∧((IntKind.u8.wrap (BitVec.ofInt IntKind.u8.bits v503 ||| BitVec.ofInt IntKind.u8.bits (128:Int)).toNat)=v504)∧((t.o++[bI v504])=v506)∧(((t.code:Int).fdiv (2 ^ min ((7:Int):Int).toNat IntKind.u64.bits))=v508)∧(v501=true)∧(0≤v504∧v504<256)∧((t.o.length+1)*1≤1099511627776)∧((v508)=t'.code)∧((v506)=t'.o)∧True)
theorem znR {w0:World} (n:Int) (v1:Int) (v2:Int) (v3:Int) (v4:Int) (v5:Int) (c2:Int) (o2:(List UInt8)) {F:Fact} (u0:F.c 0=pI n) (u1:F.c 1=pI v3) (u5000:F.c 5000=pV (.int .u64 v1)) (u5001:F.c 5001=pV (.int .u64 v2)) (u5002:F.c 5002=pV (.int .u64 v4)) (u5003:F.c 5003=pV (.int .u64 v5)) (u5004:F.c 5004=pV (.int .u64 c2)) (ug0:F.g 0=pG cB ([]:List UInt8)) (ug1:F.g 1=pG cB o2) (R:Frm) (hR:R.pm=⟨ntOf Tryz.prog 12,[],[]⟩) (J:wi_T→Prop) (m:wi_T→Nat) (hJ:J { code:=v5,o:=([]:List UInt8) }) (rounds:∀t,J t→wi_X n v1 v2 v3 v4 v5 t c2 o2∨∃t',wi_N n v1 v2 v3 v4 v5 t t'∧m t'<m t∧J t'):zg (KN w0) Tryz.prog F R wi_S (lp Tryz.prog 12 0):=by
 refine zP (T:=wi_T) (fun t=>FL [pI n,pI v3] [pG cB ([]:List UInt8),pG cB t.o] [(5000,pV (.int .u64 v1)),(5001,pV (.int .u64 v2)),(5002,pV (.int .u64 v4)),(5003,pV (.int .u64 v5)),(5004,pV (.int .u64 t.code))]) J m { code:=v5,o:=([]:List UInt8) } zb9 hJ (zipA.imp ⟨z_c (fun β v W h=>(zc u0 β v W).1 h),z_c (fun _ _ _ h=>h),z_c (fun β v W h=>(zc u5003 β v W).1 h),z_c (fun _ _ _ h=>h),z_c (fun β v W h=>(zc u0 β v W).1 h),z_c (fun β v W h=>(zc u5000 β v W).1 h),z_c (fun β v W h=>(zc u5001 β v W).1 h),z_c (fun β v W h=>(zc u0 β v W).1 h),z_c (fun β v W h=>(zc u1 β v W).1 h),z_c (fun β v W h=>(zc u5002 β v W).1 h),z_c (fun β v W h=>(zc u5003 β v W).1 h),z_gq ug0 rfl,trivial⟩) rfl fun t ht=>?_
 rcases rounds t ht with hz_ | ⟨t',hz_,hm_,hj_⟩
 ·refine .inl ?_
  rcases hz_ with ⟨v501,e501,h502,q0,q1,_⟩
  ·exact wi_r1  n v1 v2 v3 v4 v5  t.code t.o v501 e501 h502 c2 o2 F u0 u1 u5000 u5001 u5002 u5003 u5004 ug0 ug1 q0 q1 R hR
 ·refine .inr ⟨t',hm_,hj_,?_⟩
  rcases hz_ with ⟨v501,v503,v504,v506,v508,e501,e503,e504,e506,e508,h502,s505,s507,q0,q1,_⟩
  ·exact wi_r0  n v1 v2 v3 v4 v5  t.code t.o v501 v503 v504 v506 v508 e501 e503 e504 e506 e508 h502 s505 s507 t'.code t'.o q0 q1 R hR
theorem wi_ok {w0:World} (n:Int) (v1:Int) (v2:Int) (v3:Int) (v4:Int) (v5:Int) (c2:Int) (o2:(List UInt8)) {F:Fact} (u0:F.c 0=pI n) (u1:F.c 1=pI v3) (u5000:F.c 5000=pV (.int .u64 v1)) (u5001:F.c 5001=pV (.int .u64 v2)) (u5002:F.c 5002=pV (.int .u64 v4)) (u5003:F.c 5003=pV (.int .u64 v5)) (u5004:F.c 5004=pV (.int .u64 c2)) (ug0:F.g 0=pG cB ([]:List UInt8)) (ug1:F.g 1=pG cB o2) (R:Frm) (hR:R.pm=⟨ntOf Tryz.prog 12,[],[]⟩) (hn:InI n) (hz:v5=(zig n:Int)) (hO:c2=(((encI n).getLast?.getD 0).toNat:Int)∧o2=(encI n).dropLast):zg (KN w0) Tryz.prog F R wi_S (lp Tryz.prog 12 0):=by
 refine znR  n v1 v2 v3 v4 v5  c2 o2 u0 u1 u5000 u5001 u5002 u5003 u5004 ug0 ug1 R hR (fun ⟨code,o⟩=>∃c:Nat,code=(c:Int)∧c<18446744073709551616∧o++encN c=encI n) (fun ⟨code,o⟩=>code.toNat) ⟨zig n,hz,zkK hn,rfl⟩ fun t hJ=>?_
 obtain ⟨code,o⟩:=t
 dsimp only at hJ
 obtain ⟨c,hc,hlt,ho⟩:=hJ
 obtain ⟨v501,e501⟩:∃v,(decide (code ≥ (128:Int)))=v:=⟨_,rfl⟩
 cases h502:v501 with
 | true =>
  obtain ⟨v503,e503⟩:∃v,(IntKind.u8.wrap code)=v:=⟨_,rfl⟩
  obtain ⟨v504,e504⟩:∃v,(IntKind.u8.wrap (BitVec.ofInt IntKind.u8.bits v503 ||| BitVec.ofInt IntKind.u8.bits (128:Int)).toNat)=v:=⟨_,rfl⟩
  have s505:0≤v504∧v504<256:=by (first | (rw [← e504,← e503,hc,or8];omega) | (have h1:=congrArg List.length ho;rw [List.length_append] at h1;have h2:=zr hn;omega))
  obtain ⟨v506,e506⟩:∃v,(o++[bI v504])=v:=⟨_,rfl⟩
  have s507:(o.length+1)*1≤1099511627776:=by (first | (rw [← e504,← e503,hc,or8];omega) | (have h1:=congrArg List.length ho;rw [List.length_append] at h1;have h2:=zr hn;omega))
  obtain ⟨v508,e508⟩:∃v,((code:Int).fdiv (2 ^ min ((7:Int):Int).toNat IntKind.u64.bits))=v:=⟨_,rfl⟩
  refine .inr ⟨⟨v508,v506⟩,⟨v501,v503,v504,v506,v508,e501,e503,e504,e506,e508,h502,s505,s507,rfl,rfl,trivial⟩,?_,?_⟩
  all_goals (have hb:=of_decide_eq_true (e501.trans h502);subst hc;rw [fd7] at e508;subst e508)
  ·show (((c / 128:Nat):Int)).toNat<((c:Int)).toNat
   omega
  ·refine ⟨c / 128,rfl,by omega,?_⟩
   rw [zbd (by omega)] at ho
   rw [← e506,← e504,← e503,or8,List.append_assoc,← ho];rfl
 | false =>
  refine .inl (⟨v501,e501,h502,?_,?_,trivial⟩)
  all_goals (have hb:=of_decide_eq_false (e501.trans h502);subst hc;obtain ⟨h1,h2⟩:=zhw ho (by omega))
  ·rw [hO.1];exact h2
  ·rw [hO.2];exact h1
theorem wi_p0 {w0:World} (n:Int) (v1:Int) (v2:Int) (v3:Int) (v4:Int) (v5:Int) (c2:Int) (o2:(List UInt8)) (v6:Int) (v8:(List UInt8)) (v10:(List UInt8)) (e1:(IntKind.u64.wrap n)=v1) (e2:(IntKind.u64.wrap (v1*2 ^ min ((1:Int):Int).toNat IntKind.u64.bits))=v2) (e3:((n:Int).fdiv (2 ^ min ((63:Int):Int).toNat IntKind.i64.bits))=v3) (e4:(IntKind.u64.wrap v3)=v4) (e5:(IntKind.u64.wrap (BitVec.ofInt IntKind.u64.bits v2 ^^^ BitVec.ofInt IntKind.u64.bits v4).toNat)=v5) (e6:(IntKind.u8.wrap c2)=v6) (e8:(o2++[bI v6])=v8) (e10:(v8)=v10) (s7:0≤v6∧v6<256) (s9:(o2.length+1)*1≤1099511627776) (L_wi:∀R:Frm,R.pm=⟨ntOf Tryz.prog 12,[],[]⟩→zg (KN w0) Tryz.prog (FL [pI n,pI v3,pV (.int .u8 v6),pS v10] [pG cB ([]:List UInt8),pG cB o2,pG cB v8] [(5000,pV (.int .u64 v1)),(5001,pV (.int .u64 v2)),(5002,pV (.int .u64 v4)),(5003,pV (.int .u64 v5)),(5004,pV (.int .u64 c2))]) R wi_S (lp Tryz.prog 12 0)):Fun (KN w0) Tryz.prog 12 [.o (.c (pI n))] (.o (.c (pS v10))):=
 zi (z8 (F:=FL [pI n,pI v3,pV (.int .u8 v6),pS v10] [pG cB ([]:List UInt8),pG cB o2,pG cB v8] [(5000,pV (.int .u64 v1)),(5001,pV (.int .u64 v2)),(5002,pV (.int .u64 v4)),(5003,pV (.int .u64 v5)),(5004,pV (.int .u64 c2))]) (C:=[(1000002,.op (.cv 3 72) [LF (.h 0)] [] (LF (.h 5000))),
  (1000003,.bin .shl 72 (LF (.h 5000)) (LF (.k (.int .u64 1))) (LF (.h 5001))),
  (1000005,.bin .shr 3 (LF (.h 0)) (LF (.k (.int .u64 63))) (LF (.h 1))),
  (1000006,.op (.cv 3 72) [LF (.h 1)] [] (LF (.h 5002))),
  (1000007,.bin .xor 72 (LF (.h 5001)) (LF (.h 5002)) (LF (.h 5003))),
  (1001012,.op (.cv 72 5) [LF (.h 5004)] [] (LF (.h 2))),
  (1001014,.app 5 1 900 1 2 (.o (.c (.s 1013 0 1 1))) [.bx 1013 5 [.h 2]] false),
  (1001015,.op (.cv 43 9) [LF (.gr 900)] [.gl 900 5 1 2] (LF (.h 3)))]) (k:=⟨12,[.o (.c (.h 0))],[],.o (.c (.h 3)),[]⟩) ⟨[wi_S],[⟨2,[.sl 4 (.o (.c (.k (.slice none 0 0)))),.gn 900],[.sl 4 (.o (.c (.gr 900))),.gl 900 5 1 0],[]⟩],0⟩ [900] 0 (zf ⟨zb rfl,zb rfl,zb rfl,zb rfl,trivial⟩ ⟨(zm (zv rfl)),(zm (zv rfl)),(zm (zv rfl)),trivial⟩ ⟨⟨rfl,zh⟩,⟨rfl,zh⟩,⟨rfl,zh⟩,⟨rfl,zh⟩,⟨rfl,zh⟩,trivial⟩) ⟨e_op1 (za rfl) (za rfl) (fun W=>by rw [← e1];exact r_cvi (by kernel_rfl) (by kernel_rfl) W),
  e_bin (za rfl) zd (za rfl) (fun W X Y=>by rw [← e2];exact r_shl (by decide) W X Y),
  e_bin (za rfl) zd (za rfl) (fun W X Y=>by rw [← e3];exact r_shr (by decide) W X Y),
  e_op1 (za rfl) (za rfl) (fun W=>by rw [← e4];exact r_cvi (by kernel_rfl) (by kernel_rfl) W),
  e_bin (za rfl) (za rfl) (za rfl) (zL (congrArg some e5)),
  e_op1 (za rfl) (za rfl) (fun W=>by rw [← e6];exact r_cvi (by kernel_rfl) (by kernel_rfl) W),
  zht (c:=cB) (x:=bI v6) (zv rfl) zcA (.inr ⟨rfl,rfl⟩) (by rw [e8];rfl) rfl (bI_ok s7) rfl s9,
  zoa (E:=5) (l:=v8) (by kernel_rfl) (by kernel_rfl) (by kernel_rfl) rfl (by rw [e10];exact za rfl),
  trivial⟩ mixed ⟨zan (c:=cB) rfl,trivial⟩ (fun R hR p hp s hs=>by
 have hl:zH (qg Tryz.prog 12)=[(3,lp Tryz.prog 12 0)]:=by kernel_rfl
 rw [hl] at hp
 simp only [List.mem_cons,List.not_mem_nil,or_false] at hp
 rcases hp with rfl
 ·have e:s=wi_S:=(Option.some.inj hs).symm
  subst e;exact L_wi R hR) (by kernel_rfl)) rfl rfl rfl rfl
theorem zjp {n:Int}:∃c:Nat,c<128∧(encI n).dropLast++encN c=encI n:=by
 have key:∀c:Nat,∃d:Nat,d<128∧(encN c).dropLast++encN d=encN c:=by
  intro c
  induction c using Nat.strongRecOn with
  | _ c ih =>
   by_cases h:c<128
   ·exact ⟨c,h,by rw [qx h];rfl⟩
   ·obtain ⟨d,hd,e⟩:=ih (c / 128) (by omega)
    refine ⟨d,hd,?_⟩
    rw [zbd h,List.dropLast_cons_of_ne_nil (zjo _),List.cons_append,e]
 exact key _
theorem w_int {w0:World} (n:Int) (r:List UInt8) (hr:encI n=r) (hn:InI n):Fun (KN w0) Tryz.prog 12 [.o (.c (pI n))] (.o (.c (pS r))):=by
 have hz:=zmf hn
 obtain ⟨v1,e1⟩:∃v,(IntKind.u64.wrap n)=v:=⟨_,rfl⟩
 obtain ⟨v2,e2⟩:∃v,(IntKind.u64.wrap (v1*2 ^ min ((1:Int):Int).toNat IntKind.u64.bits))=v:=⟨_,rfl⟩
 obtain ⟨v3,e3⟩:∃v,((n:Int).fdiv (2 ^ min ((63:Int):Int).toNat IntKind.i64.bits))=v:=⟨_,rfl⟩
 obtain ⟨v4,e4⟩:∃v,(IntKind.u64.wrap v3)=v:=⟨_,rfl⟩
 obtain ⟨v5,e5⟩:∃v,(IntKind.u64.wrap (BitVec.ofInt IntKind.u64.bits v2 ^^^ BitVec.ofInt IntKind.u64.bits v4).toNat)=v:=⟨_,rfl⟩
 obtain ⟨c2,o2,hO_wi⟩:∃(c2:Int) (o2:(List UInt8)),c2=(((encI n).getLast?.getD 0).toNat:Int)∧o2=(encI n).dropLast:=⟨_,_,rfl,rfl⟩
 obtain ⟨v6,e6⟩:∃v,(IntKind.u8.wrap c2)=v:=⟨_,rfl⟩
 have s7:0≤v6∧v6<256:=by (first | (rw [← e6,hO_wi.1,wrap8];omega) | (have h1:=zr hn;have h2:(encI n).dropLast.length=(encI n).length - 1:=(by simp);rw [← hO_wi.2] at h2;omega))
 obtain ⟨v8,e8⟩:∃v,(o2++[bI v6])=v:=⟨_,rfl⟩
 have s9:(o2.length+1)*1≤1099511627776:=by (first | (rw [← e6,hO_wi.1,wrap8];omega) | (have h1:=zr hn;have h2:(encI n).dropLast.length=(encI n).length - 1:=(by simp);rw [← hO_wi.2] at h2;omega))
 obtain ⟨v10,e10⟩:∃v,(v8)=v:=⟨_,rfl⟩
 refine Fun.imp (wi_p0 n v1 v2 v3 v4 v5 c2 o2 v6 v8 v10 e1 e2 e3 e4 e5 e6 e8 e10 s7 s9 (fun R hR=>wi_ok n v1 v2 v3 v4 v5  c2 o2 rfl rfl rfl rfl rfl rfl rfl rfl rfl R hR hn (by rw [← e5,← e4,← e3,← e2,← e1];exact hz) hO_wi)) (fun _ _ _ h=>h) (fun v W D h=>?_)
 have r0:r=v10:=by
  obtain ⟨c,hc,e⟩:=zjp (n:=n)
  have h2:=(zhw e hc).2
  rw [← hr,← e10,← e8,← e6,hO_wi.1,hO_wi.2,← h2]
  rw [qx hc] at e
  rw [wrap8,Nat.mod_eq_of_lt (by omega)]
  exact e.symm
 rw [r0];exact h
end Go.Proofs.YtjcegdldgjphiaaGreatDoor
namespace Go.Proofs.YtjcegdldgjphiaaGreatDoor
open Go.RowKit Go.Shelf
theorem wri {n:Int} (h:-9223372036854775808≤n∧n<9223372036854775808):IntKind.i64.wrap n=n:=by rw [IntKind.wrap_i64];omega
def TxW (s:List UInt8):Prop:=s.length≤9223372036854775700
def InP (p:Pl):Prop:=InV p.1∧InI p.2
theorem zcg {v:V3} (h:InV v):(encV v).length≤30:=by
 unfold encV
 have h1:=zr h.1;have h2:=zr h.2.1;have h3:=zr h.2.2
 simp only [List.length_append];omega
theorem zhv {v:Pl} (h:InP v):(encP v).length≤40:=by
 unfold encP
 have h1:=zcg h.1;have h2:=zr h.2
 simp only [List.length_append];omega
structure ri_T where
 o:(List UInt8)
 code:Int
theorem zkF {w0:World} (s:(List UInt8)) (v1:Int) (v2:(List UInt8)) (v4:(List UInt8)) (e1:(((s:List UInt8).length:Int))=v1) (e2:(encI v1)=v2) (e4:(v2++s)=v4) (s3:InI v1) (s5:(((v2:List UInt8).length+(s:List UInt8).length:Nat):Int)≤9223372036854775807):Fun (KN w0) Tryz.prog 30 [.o (.c (pS s))] (.o (.c (pS v4))):=
 zi (zl (F:=FL [pS s,pI v1,pS v2,pS v4] []) (C:=[(1000002,.op (.len [9] 3) [LF (.h 0)] [] (LF (.h 1))),
  (1000003,.call ⟨12,[.o (.c (.h 1))],[],.o (.c (.h 2)),[]⟩),
  (1000005,.bin .add 9 (LF (.h 2)) (LF (.h 0)) (LF (.h 3)))]) (k:=⟨30,[.o (.c (.h 0))],[],.o (.c (.h 3)),[]⟩) 0 (zf ⟨zb rfl,zb rfl,zb rfl,zb rfl,trivial⟩) ⟨e_op1 (za rfl) (za rfl) (fun W=>by rw [← e1];exact zhL (by kernel_rfl) W),
  ze (w_int v1 v2 e2 s3) rfl rfl rfl rfl,
  e_bin (za rfl) (za rfl) (za rfl) (fun W X Y=>by rw [← e4];exact r_cat s5 W X Y),
  trivial⟩ mixed (by kernel_rfl)) rfl rfl rfl rfl
theorem zmH {w0:World} (s r:List UInt8) (hr:encT s=r) (hn:TxW s):Fun (KN w0) Tryz.prog 30 [.o (.c (pS s))] (.o (.c (pS r))):=by
 obtain ⟨v1,e1⟩:∃v,(((s:List UInt8).length:Int))=v:=⟨_,rfl⟩
 obtain ⟨v2,e2⟩:∃v,(encI v1)=v:=⟨_,rfl⟩
 have s3:InI v1:=by (unfold TxW at hn;first | (unfold InI;subst_vars;omega) | (subst_vars;have:=zr (n:=(s.length:Int)) (by unfold InI;omega);omega))
 obtain ⟨v4,e4⟩:∃v,(v2++s)=v:=⟨_,rfl⟩
 have s5:(((v2:List UInt8).length+(s:List UInt8).length:Nat):Int)≤9223372036854775807:=by (unfold TxW at hn;first | (unfold InI;subst_vars;omega) | (subst_vars;have:=zr (n:=(s.length:Int)) (by unfold InI;omega);omega))
 refine Fun.imp (zkF s v1 v2 v4 e1 e2 e4 s3 s5) (fun _ _ _ h=>h) (fun v W D h=>?_)
 have r0:r=v4:=by
  rw [← hr];unfold encT;subst_vars;rfl
 rw [r0];exact h
theorem zmb {w0:World} (x:V3) (v1:(List UInt8)) (v3:(List UInt8)) (v5:(List UInt8)) (v7:(List UInt8)) (v9:(List UInt8)) (e1:(encI x.1)=v1) (e3:(encI x.2.1)=v3) (e5:(v1++v3)=v5) (e7:(encI x.2.2)=v7) (e9:(v5++v7)=v9) (s2:InI x.1) (s4:InI x.2.1) (s6:(((v1:List UInt8).length+(v3:List UInt8).length:Nat):Int)≤9223372036854775807) (s8:InI x.2.2) (s10:(((v5:List UInt8).length+(v7:List UInt8).length:Nat):Int)≤9223372036854775807):Fun (KN w0) Tryz.prog 32 [.o (.g [pI x.1,pI x.2.1,pI x.2.2])] (.o (.c (pS v9))):=
 zi (zl (F:=FL [pI x.1,pI x.2.1,pI x.2.2,pS v1,pS v3,pS v5,pS v7,pS v9] []) (C:=[(1000004,.call ⟨12,[.o (.c (.h 0))],[],.o (.c (.h 3)),[]⟩),
  (1000007,.call ⟨12,[.o (.c (.h 1))],[],.o (.c (.h 4)),[]⟩),
  (1000008,.bin .add 9 (LF (.h 3)) (LF (.h 4)) (LF (.h 5))),
  (1000011,.call ⟨12,[.o (.c (.h 2))],[],.o (.c (.h 6)),[]⟩),
  (1000012,.bin .add 9 (LF (.h 5)) (LF (.h 6)) (LF (.h 7)))]) (k:=⟨32,[.o (.g [.h 0,.h 1,.h 2])],[],.o (.c (.h 7)),[]⟩) 0 (zf ⟨zb rfl,zb rfl,zb rfl,zb rfl,zb rfl,zb rfl,zb rfl,zb rfl,trivial⟩) ⟨ze (w_int x.1 v1 e1 s2) rfl rfl rfl rfl,
  ze (w_int x.2.1 v3 e3 s4) rfl rfl rfl rfl,
  e_bin (za rfl) (za rfl) (za rfl) (fun W X Y=>by rw [← e5];exact r_cat s6 W X Y),
  ze (w_int x.2.2 v7 e7 s8) rfl rfl rfl rfl,
  e_bin (za rfl) (za rfl) (za rfl) (fun W X Y=>by rw [← e9];exact r_cat s10 W X Y),
  trivial⟩ mixed (by kernel_rfl)) rfl rfl rfl rfl
theorem w_vec {w0:World} (x:V3) (r:List UInt8) (hr:encV x=r) (hn:InV x):Fun (KN w0) Tryz.prog 32 [.o (.g [pI x.1,pI x.2.1,pI x.2.2])] (.o (.c (pS r))):=by
 obtain ⟨v1,e1⟩:∃v,(encI x.1)=v:=⟨_,rfl⟩
 have s2:InI x.1:=by (first | exact hn.1 | exact hn.2.1 | exact hn.2.2 | (subst_vars;have q1:=zr hn.1;have q2:=zr hn.2.1;have q3:=zr hn.2.2;(try simp only [List.length_append]);omega))
 obtain ⟨v3,e3⟩:∃v,(encI x.2.1)=v:=⟨_,rfl⟩
 have s4:InI x.2.1:=by (first | exact hn.1 | exact hn.2.1 | exact hn.2.2 | (subst_vars;have q1:=zr hn.1;have q2:=zr hn.2.1;have q3:=zr hn.2.2;(try simp only [List.length_append]);omega))
 obtain ⟨v5,e5⟩:∃v,(v1++v3)=v:=⟨_,rfl⟩
 have s6:(((v1:List UInt8).length+(v3:List UInt8).length:Nat):Int)≤9223372036854775807:=by (first | exact hn.1 | exact hn.2.1 | exact hn.2.2 | (subst_vars;have q1:=zr hn.1;have q2:=zr hn.2.1;have q3:=zr hn.2.2;(try simp only [List.length_append]);omega))
 obtain ⟨v7,e7⟩:∃v,(encI x.2.2)=v:=⟨_,rfl⟩
 have s8:InI x.2.2:=by (first | exact hn.1 | exact hn.2.1 | exact hn.2.2 | (subst_vars;have q1:=zr hn.1;have q2:=zr hn.2.1;have q3:=zr hn.2.2;(try simp only [List.length_append]);omega))
 obtain ⟨v9,e9⟩:∃v,(v5++v7)=v:=⟨_,rfl⟩
 have s10:(((v5:List UInt8).length+(v7:List UInt8).length:Nat):Int)≤9223372036854775807:=by (first | exact hn.1 | exact hn.2.1 | exact hn.2.2 | (subst_vars;have q1:=zr hn.1;have q2:=zr hn.2.1;have q3:=zr hn.2.2;(try simp only [List.length_append]);omega))
 refine Fun.imp (zmb x v1 v3 v5 v7 v9 e1 e3 e5 e7 e9 s2 s4 s6 s8 s10) (fun _ _ _ h=>h) (fun v W D h=>?_)
 have r0:r=v9:=by
  rw [← hr];unfold encV;subst_vars;rfl
 rw [r0];exact h
theorem ziK {w0:World} (x:Pl) (v1:(List UInt8)) (v3:(List UInt8)) (v5:(List UInt8)) (e1:(encV x.1)=v1) (e3:(encI x.2)=v3) (e5:(v1++v3)=v5) (s2:InV x.1) (s4:InI x.2) (s6:(((v1:List UInt8).length+(v3:List UInt8).length:Nat):Int)≤9223372036854775807):Fun (KN w0) Tryz.prog 64 [.o (.g [pI x.1.1,pI x.1.2.1,pI x.1.2.2,pI x.2])] (.o (.c (pS v5))):=
 zi (zl (F:=FL [pI x.1.1,pI x.1.2.1,pI x.1.2.2,pI x.2,pS v1,pS v3,pS v5] []) (C:=[(1000004,.call ⟨32,[.o (.g [.h 0,.h 1,.h 2])],[],.o (.c (.h 4)),[]⟩),
  (1000007,.call ⟨12,[.o (.c (.h 3))],[],.o (.c (.h 5)),[]⟩),
  (1000008,.bin .add 9 (LF (.h 4)) (LF (.h 5)) (LF (.h 6)))]) (k:=⟨64,[.o (.g [.h 0,.h 1,.h 2,.h 3])],[],.o (.c (.h 6)),[]⟩) 0 (zf ⟨zb rfl,zb rfl,zb rfl,zb rfl,zb rfl,zb rfl,zb rfl,trivial⟩) ⟨ze (w_vec x.1 v1 e1 s2) rfl rfl rfl rfl,
  ze (w_int x.2 v3 e3 s4) rfl rfl rfl rfl,
  e_bin (za rfl) (za rfl) (za rfl) (fun W X Y=>by rw [← e5];exact r_cat s6 W X Y),
  trivial⟩ mixed (by kernel_rfl)) rfl rfl rfl rfl
theorem znP {w0:World} (x:Pl) (r:List UInt8) (hr:encP x=r) (hn:InP x):Fun (KN w0) Tryz.prog 64 [.o (.g [pI x.1.1,pI x.1.2.1,pI x.1.2.2,pI x.2])] (.o (.c (pS r))):=by
 obtain ⟨v1,e1⟩:∃v,(encV x.1)=v:=⟨_,rfl⟩
 have s2:InV x.1:=by (first | exact hn.1 | exact hn.2 | (subst_vars;have q1:=zcg hn.1;have q2:=zr hn.2;omega))
 obtain ⟨v3,e3⟩:∃v,(encI x.2)=v:=⟨_,rfl⟩
 have s4:InI x.2:=by (first | exact hn.1 | exact hn.2 | (subst_vars;have q1:=zcg hn.1;have q2:=zr hn.2;omega))
 obtain ⟨v5,e5⟩:∃v,(v1++v3)=v:=⟨_,rfl⟩
 have s6:(((v1:List UInt8).length+(v3:List UInt8).length:Nat):Int)≤9223372036854775807:=by (first | exact hn.1 | exact hn.2 | (subst_vars;have q1:=zcg hn.1;have q2:=zr hn.2;omega))
 refine Fun.imp (ziK x v1 v3 v5 e1 e3 e5 s2 s4 s6) (fun _ _ _ h=>h) (fun v W D h=>?_)
 have r0:r=v5:=by
  rw [← hr];unfold encP;subst_vars;rfl
 rw [r0];exact h
end Go.Proofs.YtjcegdldgjphiaaGreatDoor
namespace Go.Proofs.YtjcegdldgjphiaaGreatDoor
def lfO (st:St):List UInt8:=st.getD []
def bdO (st:St):Bool:=st.isNone
theorem qe {st:St}:bdO st=true↔st=none:=by cases st<;>simp [bdO]
theorem zN {st:St}:bdO st=false↔∃l,st=some l:=by cases st<;>simp [bdO]
theorem zd3 (st:St):leftN st=(lfO st).length:=by cases st<;>rfl
def RdJ (l:List UInt8) (k c:Nat):Prop:=k≤9∧c<2 ^ (7*k)∧decGo 0 l=(decGo k (l.drop k)).map fun x=>(c+2 ^ (7*k)*x.1,x.2)
theorem ze3 (l:List UInt8):RdJ l 0 0:=by
 refine ⟨by decide,by decide,?_⟩
 rw [List.drop_zero]
 cases decGo 0 l with
 | none=>rfl
 | some x=>simp
def badB (k:Nat) (b:UInt8):Prop:=(k=9∧1<b.toNat)∨(0<k∧b.toNat=0)
theorem zbC {l:List UInt8} {k:Nat} {b:UInt8} (h:l[k]?=some b):l.drop k=b::l.drop (k+1):=by
 obtain ⟨hk,e⟩:=List.getElem?_eq_some_iff.1 h
 rw [List.drop_eq_getElem_cons hk,e]
theorem zgP {l:List UInt8} {k c:Nat} {b:UInt8} (h:RdJ l k c) (hb:l[k]?=some b) (hn:badB k b):decGo 0 l=none:=by
 unfold badB at hn
 rw [h.2.2,zbC hb,decGo,if_pos hn];rfl
theorem zno {l:List UInt8} {k c:Nat} (h:RdJ l k c) (hk:l.length≤k):decGo 0 l=none:=by
 rw [h.2.2,List.drop_of_length_le hk,decGo];rfl
theorem qW {l:List UInt8} {k c:Nat} {b:UInt8} (h:RdJ l k c) (hb:l[k]?=some b) (hn:¬ badB k b) (hs:b.toNat<128):decGo 0 l=some (c+2 ^ (7*k)*b.toNat,l.drop (k+1)):=by
 unfold badB at hn
 rw [h.2.2,zbC hb,decGo,if_neg hn,if_pos hs];rfl
theorem qX {l:List UInt8} {k c:Nat} {b:UInt8} (h:RdJ l k c) (hb:l[k]?=some b) (hn:¬ badB k b) (hs:¬ b.toNat<128):RdJ l (k+1) (c+2 ^ (7*k)*(b.toNat - 128)):=by
 have h9:k≠9:=fun e=>hn (.inl ⟨e,by omega⟩)
 have h1:=h.1
 have e1:2 ^ (7*(k+1))=128*2 ^ (7*k):=by
  rw [show 7*(k+1)=7+7*k by omega,Nat.pow_add]
 refine ⟨by omega,?_,?_⟩
 ·have h2:=h.2.1
  have h3:=b.toNat_lt
  rw [e1]
  have:2 ^ (7*k)*(b.toNat - 128)≤2 ^ (7*k)*127:=Nat.mul_le_mul_left _ (by omega)
  omega
 ·unfold badB at hn
  rw [h.2.2,zbC hb,decGo,if_neg hn,if_neg hs]
  cases decGo (k+1) (l.drop (k+1)) with
  | none=>simp only [Option.map_none]
  | some x =>
   simp only [Option.map_some,Option.some.injEq,Prod.mk.injEq,and_true]
   rw [e1]
   generalize 2 ^ (7*k)=y
   rw [Nat.mul_add,← Nat.mul_assoc y 128,Nat.mul_comm y 128,Nat.add_assoc]
theorem zhp {l r:List UInt8} {c:Nat} (h:decGo 0 l=some (c,r)):c<18446744073709551616:=by
 have:=(zct l 0 c r (by decide) h).2.1
 rwa [roof0] at this
theorem rd_or {l:List UInt8} {k c:Nat} {b:UInt8} (h:RdJ l k c) (hn:¬ badB k b):IntKind.u64.wrap ((BitVec.ofInt IntKind.u64.bits (c:Int) ||| BitVec.ofInt IntKind.u64.bits (IntKind.u64.wrap (((b.toNat%128:Nat):Int)*2 ^ min ((7*k:Nat):Int).toNat IntKind.u64.bits))).toNat:Int)=((c+2 ^ (7*k)*(b.toNat%128):Nat):Int):=by
 have h1:=h.1
 have hm:min ((7*k:Nat):Int).toNat IntKind.u64.bits=7*k:=by
  rw [Int.toNat_natCast]
  exact Nat.min_eq_left (by show 7*k≤64;omega)
 rw [hm]
 have hp:2 ^ (7*k)*(b.toNat%128)+2 ^ (7*k)≤18446744073709551616:=by
  by_cases h9:k=9
  ·subst h9
   have:b.toNat%128≤1:=by
    rcases Nat.lt_or_ge 1 b.toNat with h2 | h2
    ·exact absurd (.inl ⟨rfl,h2⟩) hn
    ·omega
   have:2 ^ (7*9)*(b.toNat%128)≤2 ^ (7*9)*1:=Nat.mul_le_mul_left _ this
   have e:2 ^ (7*9)=9223372036854775808:=by decide
   omega
  ·have e1:2 ^ (7*k)≤2 ^ 56:=Nat.pow_le_pow_right (by decide) (by omega)
   have e2:(2:Nat) ^ 56=72057594037927936:=by decide
   have:2 ^ (7*k)*(b.toNat%128)≤2 ^ (7*k)*127:=Nat.mul_le_mul_left _ (by omega)
   omega
 have hw:IntKind.u64.wrap (((b.toNat%128:Nat):Int)*2 ^ (7*k))=(((b.toNat%128)*2 ^ (7*k):Nat):Int):=by
  rw [wu64]
  have e:((b.toNat%128:Nat):Int)*2 ^ (7*k)=(((b.toNat%128)*2 ^ (7*k):Nat):Int):=by
   rw [Int.natCast_mul,Int.natCast_pow];rfl
  rw [e]
  rw [Nat.mul_comm] at hp
  have hpos:0<2 ^ (7*k):=Nat.pow_pos (by decide)
  generalize b.toNat%128*2 ^ (7*k)=y at hp ⊢
  omega
 rw [hw,znd h.2.1 (by rw [Nat.mul_comm] at hp;have:=h.2.1;omega),Nat.mul_comm]
end Go.Proofs.YtjcegdldgjphiaaGreatDoor
