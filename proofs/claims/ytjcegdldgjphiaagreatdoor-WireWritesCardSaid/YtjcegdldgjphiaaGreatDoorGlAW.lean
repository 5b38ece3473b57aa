/-
  Merged: SymZ, WrB, WrC, WrRd, WrD.
-/
import Derived.Test.YtjcegdldgjphiaaGreatDoorGlAV
import Derived.Laws.IdiomStrings
import Derived.Laws.BytesArg
import Derived.Test.YtjcegdldgjphiaaGreatDoorGlAU
import Derived.Test.YtjcegdldgjphiaaGreatDoorGlAO
set_option linter.unusedSimpArgs false
set_option linter.unusedVariables false
set_option maxRecDepth 100000
namespace Go.Proofs.YtjcegdldgjphiaaGreatDoor
open Go.RowKit
def cB (x:UInt8):List Pred:=[pV (.int .u8 (x.toNat:Int))]
theorem zcA (x:UInt8):(cB x).length=1:=rfl
section
variable {K:Kit} {P:Program} {F:Fact}
theorem zv (hb:K.bad .u8=false) (x:UInt8):FineAll K (cB x):=⟨zb (by simp [Kit.ck,ckf,hb]),trivial⟩
theorem zcG {W:World} {D:Dat}:∀{l:List UInt8} {vs:List Value},okl (l.flatMap cB) vs W D→vs=l.map fun b=>Value.int .u8 (b.toNat:Int)
 | [],[],_=>rfl
 | b::l,v::vs,h=>by
  rw [List.flatMap_cons] at h
  obtain ⟨h1,h2⟩:=h
  have e:v=.int .u8 (b.toNat:Int):=h1
  rw [e,zcG h2];rfl
 | [],_::_,h=>h.elim
 | _::_,[],h=>h.elim
theorem zgg {W:World} {q:Nat} {us:Array Value} {T:TypeId} {fz:Nat×Nat} {l:List UInt8} (hh:W.heap[q]?=some (.cells us T fz)) (h:us.toList.take l.length=l.map fun b=>Value.int .u8 (b.toNat:Int)):∀j (hj:j<l.length),W.cell? ((⟨q,0,none⟩:Addr).add j)=some (.int .u8 (l[j].toNat:Int)):=by
 intro j hj
 rw [show (⟨q,0,none⟩:Addr).add j=⟨q,0+j,none⟩ from zat ..,Nat.zero_add,zaj hh]
 have h1:(us.toList.take l.length)[j]?=some (.int .u8 (l[j].toNat:Int)):=by rw [h];simp [hj]
 rw [List.getElem?_take_of_lt hj] at h1
 simpa using h1
theorem zoa {S T E:TypeId} {b n:Nat} {l:List UInt8} {o:Lf} (hS:P.underlying S=some (.slice E)) (hE:P.underlying E=some (.int .u8)) (hT:P.underlying T=some .string) (hn:F.g n=pG cB l) (ho:Gives F o (.string ⟨l.toArray⟩)):Ent.sound K P F (.op (.cv S T) [LF (.gr b)] [.gl b E 1 n] (LF o)):=by
 intro β W vs hs hpre _
 match vs,hs with
 | [v],⟨h1,_⟩ =>
  have hv:v=gv β b:=h1
  obtain ⟨cap,h⟩:=zhC zcA (by decide) hn (hpre _ (List.mem_cons_self ..))
  refine ⟨.string ⟨l.toArray⟩,?_,(ho β _ W).2 rfl⟩
  show (convert S T v).run P W=_
  rcases h with ⟨h2,_,rfl⟩ | ⟨g,cur,_,h2,hh,_,hok⟩
  ·rw [hv,h2]
   simp [convert,run_underlying hS,run_underlying hE,run_underlying hT,Conv.bytesToString]
   rfl
  ·rw [hv,h2]
   rw [Nat.mul_one] at hok
   exact run_convert_bytes_back W S T E ⟨g,0,none⟩ cap l hS hE hT (zgg hh (zcG hok))
 | [],h=>exact h.elim
 | _::_::_,h=>exact h.2.elim
theorem zqW {S T E:TypeId} {b k c:Nat} {ls:List Lf} {ps:List Pred} {l:List UInt8} {o:Lf} (hS:P.underlying S=some (.slice E)) (hE:P.underlying E=some (.int .u8)) (hT:P.underlying T=some .string) (hp:ls.map (Lf.pr F)=ps) (hps:∀vs W D,okl ps vs W D→okl (l.flatMap cB) vs W D) (hlow:ls.all (Lf.low [])=true) (hk:l.length=k) (ho:Gives F o (.string ⟨l.toArray⟩)) :
  Ent.sound K P F (.op (.cv S T) [LF (.s b 0 k c)] [.bx b E ls] (LF o)):=by
 subst hk
 intro β W vs hs hpre _
 match vs,hs with
 | [v],⟨⟨q,hq,e⟩,_⟩ =>
  subst e
  obtain ⟨q',us,hq',hh,hoks,_,_,_⟩:=hpre _ (List.mem_cons_self ..)
  have e:q'=q:=Option.some.inj (hq'.symm.trans hq)
  subst e
  have h1:=hps _ W β.D (by rw [← hp];exact (za4 hlow).1 hoks)
  have h2:=zcG h1
  refine ⟨.string ⟨l.toArray⟩,?_,(ho β _ W).2 rfl⟩
  show (convert S T _).run P W=_
  exact run_convert_bytes_back W S T E ⟨q',0,none⟩ c l hS hE hT (zgg hh (by rw [h2,List.take_of_length_le (by simp)]))
 | [],h=>exact h.elim
 | _::_::_,h=>exact h.2.elim
end
theorem zjJ {α:Type} {c:α→List Pred} {v:Value} {W:World} {D:Dat} (h:pV (.slice none 0 0) v W D):pLs c ([]:List α) v W D:=.inl ⟨⟨_,_,h⟩,rfl,rfl⟩
end Go.Proofs.YtjcegdldgjphiaaGreatDoor
namespace Go.Proofs.YtjcegdldgjphiaaGreatDoor
open Go.RowKit Go.Shelf
def bI (x:Int):UInt8:=dg7 x.toNat
theorem zn3 {x:Int} (h:0≤x∧x<256):((bI x).toNat:Int)=x:=by
 unfold bI
 rw [zdQ (by omega)];omega
theorem bI_ok {x:Int} (h:0≤x∧x<256):∀vs W D,okl [pV (.int .u8 x)] vs W D→okl (cB (bI x)) vs W D:=by
 intro vs W D h1
 unfold cB
 rw [zn3 h];exact h1
def B8:List Int→Prop
 | []=>True
 | x::r=>(0≤x∧x<256)∧B8 r
theorem zqj:∀{l:List Int},B8 l→∀vs W D,okl (l.map fun x=>pV (.int .u8 x)) vs W D→okl ((l.map bI).flatMap cB) vs W D
 | [],_,_,_,_,h=>h
 | x::r,hb,v::vs,W,D,h=>by
  show okl ((bI x::r.map bI).flatMap cB) (v::vs) W D
  rw [List.flatMap_cons]
  refine ⟨?_,zqj hb.2 vs W D h.2⟩
  show pV (.int .u8 ((bI x).toNat:Int)) v W D
  rw [zn3 hb.1];exact h.1
 | _::_,_,[],_,_,h=>h.elim
theorem zhw {o l:List UInt8} {c:Nat} (h:o++encN c=l) (hc:c<128):o=l.dropLast∧(c:Int)=((l.getLast?.getD 0).toNat:Int):=by
 subst h
 rw [qx hc]
 refine ⟨by simp,?_⟩
 rw [List.getLast?_append]
 simp [zdQ (show c<256 by omega)]
theorem wrap8 (c:Nat):IntKind.u8.wrap (c:Int)=((c%256:Nat):Int):=by rw [wu8];omega
theorem fd7 (c:Nat):((c:Int)).fdiv (2 ^ min ((7:Int):Int).toNat IntKind.u64.bits)=((c / 128:Nat):Int):=by
 show ((c:Int)).fdiv 128=_
 rw [Int.fdiv_eq_ediv_of_nonneg _ (by decide)];omega
structure wi_T where
 code:Int
 o:(List UInt8)
def zb9:List Atom:=[.sl 0 (yh 0),.sl 2 (.o (.c (.k (.string ⟨#[]⟩)))),.sl 3 (yh 5004),.sl 4 (.o (.c (.gr 900))),.sl 5 (yh 0),.sl 6 (yh 5000),.sl 7 (yh 5001),.sl 8 (yh 0),.sl 9 (yh 1),.sl 10 (yh 5002),.sl 11 (yh 5003),.gl 900 5 1 1]
def wi_S:LoopS:=⟨3,[.sl 0 (yh 0),.sl 2 (.o (.c (.k (.string ⟨#[]⟩)))),.sl 3 (yh 5003),.sl 4 (.o (.c (.gr 900))),.sl 5 (yh 0),.sl 6 (yh 5000),.sl 7 (yh 5001),.sl 8 (yh 0),.sl 9 (yh 1),.sl 10 (yh 5002),.sl 11 (yh 5003),.gl 900 5 1 0],(.x 0),[.sl 0 (yh 0),.sl 2 (.o (.c (.k (.string ⟨#[]⟩)))),.sl 3 (yh 5004),.sl 4 (.o (.c (.gr 900))),.sl 5 (yh 0),.sl 6 (yh 5000),.sl 7 (yh 5001),.sl 8 (yh 0),.sl 9 (yh 1),.sl 10 (yh 5002),.sl 11 (yh 5003),.gl 900 5 1 1]⟩
theorem wi_r0 {w0:World} (n:Int) (v1:Int) (v2:Int) (v3:Int) (v4:Int) (v5:Int) (code:Int) (o:(List UInt8)) (v501:Bool) (v503:Int) (v504:Int) (v506:(List UInt8)) (v508:Int) (e501:(decide (code ≥ (128:Int)))=v501) (e503:(IntKind.u8.wrap code)=v503) (e504:(IntKind.u8.wrap (BitVec.ofInt IntKind.u8.bits v503 ||| BitVec.ofInt IntKind.u8.bits (128:Int)).toNat)=v504) (e506:(o++[bI v504])=v506) (e508:((code:Int).fdiv (2 ^ min ((7:Int):Int).toNat IntKind.u64.bits))=v508) (h502:v501=true) (s505:0≤v504∧v504<256) (s507:(o.length+1)*1≤1099511627776) (code':Int) (o':(List UInt8)) (q0:(v508)=code') (q1:(v506)=o') (R:Frm) (hR:R.pm=⟨ntOf Tryz.prog 12,[],[]⟩):Goes (KN w0) Tryz.prog R (lp Tryz.prog 12 0) (FL [pI n,pI v3] [pG cB ([]:List UInt8),pG cB o] [(5000,pV (.int .u64 v1)),(5001,pV (.int .u64 v2)),(5002,pV (.int .u64 v4)),(5003,pV (.int .u64 v5)),(5004,pV (.int .u64 code))]) zb9 .n (FL [pI n,pI v3] [pG cB ([]:List UInt8),pG cB o'] [(5000,pV (.int .u64 v1)),(5001,pV (.int .u64 v2)),(5002,pV (.int .u64 v4)),(5003,pV (.int .u64 v5)),(5004,pV (.int .u64 code'))]) zb9:=
 goes (x:=.n) (y:=.n) (Fb:=FL [pI n,pI v3,pB v501,pV (.int .u8 v503),pV (.int .u8 v504)] [pG cB ([]:List UInt8),pG cB o,pG cB v506] [(5000,pV (.int .u64 v1)),(5001,pV (.int .u64 v2)),(5002,pV (.int .u64 v4)),(5003,pV (.int .u64 v5)),(5004,pV (.int .u64 code)),(5005,pV (.int .u64 v508))]) (stb:=zb9) (tl:=[.sl 0 (yh 0),.sl 2 (.o (.c (.k (.string ⟨#[]⟩)))),.sl 3 (yh 5005),.sl 4 (.o (.c (.gr 900))),.sl 5 (yh 0),.sl 6 (yh 5000),.sl 7 (yh 5001),.sl 8 (yh 0),.sl 9 (yh 1),.sl 10 (yh 5002),.sl 11 (yh 5003),.gl 900 5 1 2]) (C:=((1005001,.bin .geq 72 (yh 5004) (LF (.k (.int .u64 128))) (yh 2)) ::
  (10002,.fb 2 true) ::
  (1005004,.op (.cv 72 5) [yh 5004] [] (yh 3)) ::
  (1005005,.bin .or 5 (yh 3) (LF (.k (.int .u8 128))) (yh 4)) ::
  (1005007,.app 5 1 900 1 2 (.o (.c (.s 5006 0 1 1))) [.bx 5006 5 [.h 4]] false) ::
  (1005010,.bin .shr 72 (yh 5004) (LF (.k (.int .u64 7))) (yh 5005)) ::
  []:List (Nat×Ent))) (H:=.no) 5000 (zipA.imp ⟨z_c yy,z_c yy,z_c yy,z_c yy,z_c yy,z_c yy,z_c yy,z_c yy,z_c yy,z_c yy,z_c yy,z_gl (fun _ _ _ h=>h),trivial⟩) (zf ⟨zb,zb,zb,zb,zb,trivial⟩ ⟨(zm (zv rfl)),(zm (zv rfl)),(zm (zv rfl)),trivial⟩ ⟨⟨rfl,zh⟩,⟨rfl,zh⟩,⟨rfl,zh⟩,⟨rfl,zh⟩,⟨rfl,zh⟩,⟨rfl,zh⟩,trivial⟩) ⟨e_bin (za rfl) zd (za rfl) (r_cmp (congrArg some e501)),
  e_fbv h502,
  e_op1 (za rfl) (za rfl) (fun W=>by rw [← e503];exact r_cvi (by kernel_rfl) (by kernel_rfl) W),
  e_bin (za rfl) zd (za rfl) (zL (congrArg some e504)),
  zht (c:=cB) (x:=bI v504) (zv rfl) zcA (.inr ⟨rfl,rfl⟩) (by rw [e506];rfl) rfl (bI_ok s505) rfl s507,
  e_bin (za rfl) zd (za rfl) (fun W X Y=>by rw [← e508];exact r_shr (by decide) W X Y),
  trivial⟩ mixed hR trivial (fun _ _ _ hs=>by cases hs) (by kernel_rfl:zz (KN w0) Tryz.prog _ .no ⟨ntOf Tryz.prog 12,[],[]⟩ (lp Tryz.prog 12 0) 5000 zb9 .n [.sl 0 (yh 0),.sl 2 (.o (.c (.k (.string ⟨#[]⟩)))),.sl 3 (yh 5005),.sl 4 (.o (.c (.gr 900))),.sl 5 (yh 0),.sl 6 (yh 5000),.sl 7 (yh 5001),.sl 8 (yh 0),.sl 9 (yh 1),.sl 10 (yh 5002),.sl 11 (yh 5003),.gl 900 5 1 2]=true) rfl (zipA.imp ⟨z_c yy,z_c yy,z_c (fun β v W h=>(zc rfl β v W).2 (by rw [← q0];exact h)),z_c yy,z_c yy,z_c yy,z_c yy,z_c yy,z_c yy,z_c yy,z_c yy,z_gq rfl (by rw [q1];rfl),trivial⟩)
theorem wi_r1 {w0:World} (n:Int) (v1:Int) (v2:Int) (v3:Int) (v4:Int) (v5:Int) (code:Int) (o:(List UInt8)) (v501:Bool) (e501:(decide (code ≥ (128:Int)))=v501) (h502:v501=false) (c2:Int) (o2:(List UInt8)) (F:Fact) (u0:F.c 0=pI n) (u1:F.c 1=pI v3) (u5000:F.c 5000=pV (.int .u64 v1)) (u5001:F.c 5001=pV (.int .u64 v2)) (u5002:F.c 5002=pV (.int .u64 v4)) (u5003:F.c 5003=pV (.int .u64 v5)) (u5004:F.c 5004=pV (.int .u64 c2)) (ug0:F.g 0=pG cB ([]:List UInt8)) (ug1:F.g 1=pG cB o2) (q0:(code)=c2) (q1:(o)=o2) (R:Frm) (hR:R.pm=⟨ntOf Tryz.prog 12,[],[]⟩):Goes (KN w0) Tryz.prog R (lp Tryz.prog 12 0) (FL [pI n,pI v3] [pG cB ([]:List UInt8),pG cB o] [(5000,pV (.int .u64 v1)),(5001,pV (.int .u64 v2)),(5002,pV (.int .u64 v4)),(5003,pV (.int .u64 v5)),(5004,pV (.int .u64 code))]) zb9 (.x 0) F wi_S.out:=
 goes (x:=(.x 0)) (y:=(.x 0)) (Fb:=FL [pI n,pI v3,pB v501] [pG cB ([]:List UInt8),pG cB o] [(5000,pV (.int .u64 v1)),(5001,pV (.int .u64 v2)),(5002,pV (.int .u64 v4)),(5003,pV (.int .u64 v5)),(5004,pV (.int .u64 code))]) (stb:=zb9) (tl:=[.sl 0 (yh 0),.sl 2 (.o (.c (.k (.string ⟨#[]⟩)))),.sl 3 (yh 5004),.sl 4 (.o (.c (.gr 900))),.sl 5 (yh 0),.sl 6 (yh 5000),.sl 7 (yh 5001),.sl 8 (yh 0),.sl 9 (yh 1),.sl 10 (yh 5002),.sl 11 (yh 5003),.gl 900 5 1 1]) (C:=((1005001,.bin .geq 72 (yh 5004) (LF (.k (.int .u64 128))) (yh 2)) ::
  (10002,.fb 2 false) ::
  []:List (Nat×Ent))) (H:=.no) 5000 (zipA.imp ⟨z_c yy,z_c yy,z_c yy,z_c yy,z_c yy,z_c yy,z_c yy,z_c yy,z_c yy,z_c yy,z_c yy,z_gl (fun _ _ _ h=>h),trivial⟩) (zf ⟨zb,zb,zb,trivial⟩ ⟨(zm (zv rfl)),(zm (zv rfl)),trivial⟩ ⟨⟨rfl,zh⟩,⟨rfl,zh⟩,⟨rfl,zh⟩,⟨rfl,zh⟩,⟨rfl,zh⟩,trivial⟩) ⟨e_bin (za rfl) zd (za rfl) (r_cmp (congrArg some e501)),
  e_fbv h502,
  trivial⟩ mixed hR trivial (fun _ _ _ hs=>by cases hs) (by kernel_rfl:zz (KN w0) Tryz.prog _ .no ⟨ntOf Tryz.prog 12,[],[]⟩ (lp Tryz.prog 12 0) 5000 zb9 (.x 0) [.sl 0 (yh 0),.sl 2 (.o (.c (.k (.string ⟨#[]⟩)))),.sl 3 (yh 5004),.sl 4 (.o (.c (.gr 900))),.sl 5 (yh 0),.sl 6 (yh 5000),.sl 7 (yh 5001),.sl 8 (yh 0),.sl 9 (yh 1),.sl 10 (yh 5002),.sl 11 (yh 5003),.gl 900 5 1 1]=true) rfl (zipA.imp ⟨z_c (fun β v W h=>(zc u0 β v W).2 h),z_c yy,z_c (fun β v W h=>(zc u5004 β v W).2 (by rw [← q0];exact h)),z_c yy,z_c (fun β v W h=>(zc u0 β v W).2 h),z_c (fun β v W h=>(zc u5000 β v W).2 h),z_c (fun β v W h=>(zc u5001 β v W).2 h),z_c (fun β v W h=>(zc u0 β v W).2 h),z_c (fun β v W h=>(zc u1 β v W).2 h),z_c (fun β v W h=>(zc u5002 β v W).2 h),z_c (fun β v W h=>(zc u5003 β v W).2 h),z_gq rfl (by rw [q1];exact ug1),trivial⟩)
def wi_X (n:Int) (v1:Int) (v2:Int) (v3:Int) (v4:Int) (v5:Int) (t:wi_T) (c2:Int) (o2:(List UInt8)):Prop:=(∃(v501:Bool),((decide (t.code ≥ (128:Int)))=v501)∧(v501=false)∧((t.code)=c2)∧((t.o)=o2)∧True)
def wi_N (n:Int) (v1:Int) (v2:Int) (v3:Int) (v4:Int) (v5:Int) (t t':wi_T):Prop:=(∃(v501:Bool),∃(v503:Int),∃(v504:Int),∃(v506:(List UInt8)),∃(v508:Int),((decide (t.code ≥ (128:Int)))=v501)∧((IntKind.u8.wrap t.code)=v503)∧((IntKind.u8.wrap (BitVec.ofInt IntKind.u8.bits v503 ||| BitVec.ofInt IntKind.u8.bits (128:Int)).toNat)=v504)∧((t.o++[bI v504])=v506)∧(((t.code:Int).fdiv (2 ^ min ((7:Int):Int).toNat IntKind.u64.bits))=v508)∧(v501=true)∧(0≤v504∧v504<256)∧((t.o.length+1)*1≤1099511627776)∧((v508)=t'.code)∧((v506)=t'.o)∧True)
theorem znR {w0:World} (n:Int) (v1:Int) (v2:Int) (v3:Int) (v4:Int) (v5:Int) (c2:Int) (o2:(List UInt8)) {F:Fact} (u0:F.c 0=pI n) (u1:F.c 1=pI v3) (u5000:F.c 5000=pV (.int .u64 v1)) (u5001:F.c 5001=pV (.int .u64 v2)) (u5002:F.c 5002=pV (.int .u64 v4)) (u5003:F.c 5003=pV (.int .u64 v5)) (u5004:F.c 5004=pV (.int .u64 c2)) (ug0:F.g 0=pG cB ([]:List UInt8)) (ug1:F.g 1=pG cB o2) (R:Frm) (hR:R.pm=⟨ntOf Tryz.prog 12,[],[]⟩) (J:wi_T→Prop) (m:wi_T→Nat) (hJ:J { code:=v5,o:=([]:List UInt8) }) (rounds:∀t,J t→wi_X n v1 v2 v3 v4 v5 t c2 o2∨∃t',wi_N n v1 v2 v3 v4 v5 t t'∧m t'<m t∧J t'):zg (KN w0) Tryz.prog F R wi_S (lp Tryz.prog 12 0):=by
 refine zP (T:=wi_T) (fun t=>FL [pI n,pI v3] [pG cB ([]:List UInt8),pG cB t.o] [(5000,pV (.int .u64 v1)),(5001,pV (.int .u64 v2)),(5002,pV (.int .u64 v4)),(5003,pV (.int .u64 v5)),(5004,pV (.int .u64 t.code))]) J m { code:=v5,o:=([]:List UInt8) } zb9 hJ (zipA.imp ⟨z_c (fun β v W h=>(zc u0 β v W).1 h),z_c yy,z_c (fun β v W h=>(zc u5003 β v W).1 h),z_c yy,z_c (fun β v W h=>(zc u0 β v W).1 h),z_c (fun β v W h=>(zc u5000 β v W).1 h),z_c (fun β v W h=>(zc u5001 β v W).1 h),z_c (fun β v W h=>(zc u0 β v W).1 h),z_c (fun β v W h=>(zc u1 β v W).1 h),z_c (fun β v W h=>(zc u5002 β v W).1 h),z_c (fun β v W h=>(zc u5003 β v W).1 h),z_gq ug0 rfl,trivial⟩) rfl fun t ht=>?_
 rcases rounds t ht with hz_ | ⟨t',hz_,hm_,hj_⟩
 ·refine .inl ?_
  rcases hz_ with ⟨v501,e501,h502,q0,q1,_⟩
  ·exact wi_r1  n v1 v2 v3 v4 v5  t.code t.o v501 e501 h502 c2 o2 F u0 u1 u5000 u5001 u5002 u5003 u5004 ug0 ug1 q0 q1 R hR
 ·refine .inr ⟨t',hm_,hj_,?_⟩
  rcases hz_ with ⟨v501,v503,v504,v506,v508,e501,e503,e504,e506,e508,h502,s505,s507,q0,q1,_⟩
  ·exact wi_r0  n v1 v2 v3 v4 v5  t.code t.o v501 v503 v504 v506 v508 e501 e503 e504 e506 e508 h502 s505 s507 t'.code t'.o q0 q1 R hR
theorem wi_ok {w0:World} (n:Int) (v1:Int) (v2:Int) (v3:Int) (v4:Int) (v5:Int) (c2:Int) (o2:(List UInt8)) {F:Fact} (u0:F.c 0=pI n) (u1:F.c 1=pI v3) (u5000:F.c 5000=pV (.int .u64 v1)) (u5001:F.c 5001=pV (.int .u64 v2)) (u5002:F.c 5002=pV (.int .u64 v4)) (u5003:F.c 5003=pV (.int .u64 v5)) (u5004:F.c 5004=pV (.int .u64 c2)) (ug0:F.g 0=pG cB ([]:List UInt8)) (ug1:F.g 1=pG cB o2) (R:Frm) (hR:R.pm=⟨ntOf Tryz.prog 12,[],[]⟩) (hn:InI n) (hz:v5=(zig n:Int)) (hO:c2=(((encI n).getLast?.getD 0).toNat:Int)∧o2=(encI n).dropLast):zg (KN w0) Tryz.prog F R wi_S (lp Tryz.prog 12 0):=by
 refine znR  n v1 v2 v3 v4 v5  c2 o2 u0 u1 u5000 u5001 u5002 u5003 u5004 ug0 ug1 R hR (fun ⟨code,o⟩=>∃c:Nat,code=(c:Int)∧c<18446744073709551616∧o++encN c=encI n) (fun ⟨code,o⟩=>code.toNat) ⟨zig n,hz,zkK hn,rfl⟩ fun t hJ=>?_
 obtain ⟨code,o⟩:=t
 dsimp only at hJ
 obtain ⟨c,hc,hlt,ho⟩:=hJ
 obtain ⟨v501,e501⟩:∃v,(decide (code ≥ (128:Int)))=v:=⟨_,rfl⟩
 cases h502:v501 with
 | true =>
  obtain ⟨v503,e503⟩:∃v,(IntKind.u8.wrap code)=v:=⟨_,rfl⟩
  obtain ⟨v504,e504⟩:∃v,(IntKind.u8.wrap (BitVec.ofInt IntKind.u8.bits v503 ||| BitVec.ofInt IntKind.u8.bits (128:Int)).toNat)=v:=⟨_,rfl⟩
  have s505:0≤v504∧v504<256:=by (first | (rw [← e504,← e503,hc,or8];omega) | (have h1:=congrArg List.length ho;rw [List.length_append] at h1;have h2:=zr hn;omega))
  obtain ⟨v506,e506⟩:∃v,(o++[bI v504])=v:=⟨_,rfl⟩
  have s507:(o.length+1)*1≤1099511627776:=by (first | (rw [← e504,← e503,hc,or8];omega) | (have h1:=congrArg List.length ho;rw [List.length_append] at h1;have h2:=zr hn;omega))
  obtain ⟨v508,e508⟩:∃v,((code:Int).fdiv (2 ^ min ((7:Int):Int).toNat IntKind.u64.bits))=v:=⟨_,rfl⟩
  refine .inr ⟨⟨v508,v506⟩,⟨v501,v503,v504,v506,v508,e501,e503,e504,e506,e508,h502,s505,s507,rfl,rfl,trivial⟩,?_,?_⟩
  all_goals (have hb:=of_decide_eq_true (e501.trans h502);subst hc;rw [fd7] at e508;subst e508)
  ·show (((c / 128:Nat):Int)).toNat<((c:Int)).toNat
   omega
  ·refine ⟨c / 128,rfl,by omega,?_⟩
   rw [zbd (by omega)] at ho
   rw [← e506,← e504,← e503,or8,List.append_assoc,← ho];rfl
 | false =>
  refine .inl (⟨v501,e501,h502,?_,?_,trivial⟩)
  all_goals (have hb:=of_decide_eq_false (e501.trans h502);subst hc;obtain ⟨h1,h2⟩:=zhw ho (by omega))
  ·rw [hO.1];exact h2
  ·rw [hO.2];exact h1
theorem wi_p0 {w0:World} (n:Int) (v1:Int) (v2:Int) (v3:Int) (v4:Int) (v5:Int) (c2:Int) (o2:(List UInt8)) (v6:Int) (v8:(List UInt8)) (v10:(List UInt8)) (e1:(IntKind.u64.wrap n)=v1) (e2:(IntKind.u64.wrap (v1*2 ^ min ((1:Int):Int).toNat IntKind.u64.bits))=v2) (e3:((n:Int).fdiv (2 ^ min ((63:Int):Int).toNat IntKind.i64.bits))=v3) (e4:(IntKind.u64.wrap v3)=v4) (e5:(IntKind.u64.wrap (BitVec.ofInt IntKind.u64.bits v2 ^^^ BitVec.ofInt IntKind.u64.bits v4).toNat)=v5) (e6:(IntKind.u8.wrap c2)=v6) (e8:(o2++[bI v6])=v8) (e10:(v8)=v10) (s7:0≤v6∧v6<256) (s9:(o2.length+1)*1≤1099511627776) (L_wi:∀R:Frm,R.pm=⟨ntOf Tryz.prog 12,[],[]⟩→zg (KN w0) Tryz.prog (FL [pI n,pI v3,pV (.int .u8 v6),pS v10] [pG cB ([]:List UInt8),pG cB o2,pG cB v8] [(5000,pV (.int .u64 v1)),(5001,pV (.int .u64 v2)),(5002,pV (.int .u64 v4)),(5003,pV (.int .u64 v5)),(5004,pV (.int .u64 c2))]) R wi_S (lp Tryz.prog 12 0)):Fun (KN w0) Tryz.prog 12 [.o (.c (pI n))] (.o (.c (pS v10))):=
 zi (z8 (F:=FL [pI n,pI v3,pV (.int .u8 v6),pS v10] [pG cB ([]:List UInt8),pG cB o2,pG cB v8] [(5000,pV (.int .u64 v1)),(5001,pV (.int .u64 v2)),(5002,pV (.int .u64 v4)),(5003,pV (.int .u64 v5)),(5004,pV (.int .u64 c2))]) (C:=[(1000002,.op (.cv 3 72) [yh 0] [] (yh 5000)),
  (1000003,.bin .shl 72 (yh 5000) (LF (.k (.int .u64 1))) (yh 5001)),
  (1000005,.bin .shr 3 (yh 0) (LF (.k (.int .u64 63))) (yh 1)),
  (1000006,.op (.cv 3 72) [yh 1] [] (yh 5002)),
  (1000007,.bin .xor 72 (yh 5001) (yh 5002) (yh 5003)),
  (1001012,.op (.cv 72 5) [yh 5004] [] (yh 2)),
  (1001014,.app 5 1 900 1 2 (.o (.c (.s 1013 0 1 1))) [.bx 1013 5 [.h 2]] false),
  (1001015,.op (.cv 43 9) [LF (.gr 900)] [.gl 900 5 1 2] (yh 3))]) (k:=⟨12,[yh 0],[],yh 3,[]⟩) ⟨[wi_S],[⟨2,[.sl 4 (.o (.c (.k (.slice none 0 0)))),.gn 900],[.sl 4 (.o (.c (.gr 900))),.gl 900 5 1 0],[]⟩],0⟩ [900] 0 (zf ⟨zb,zb,zb,zb,trivial⟩ ⟨(zm (zv rfl)),(zm (zv rfl)),(zm (zv rfl)),trivial⟩ ⟨⟨rfl,zh⟩,⟨rfl,zh⟩,⟨rfl,zh⟩,⟨rfl,zh⟩,⟨rfl,zh⟩,trivial⟩) ⟨e_op1 (za rfl) (za rfl) (fun W=>by rw [← e1];exact r_cvi (by kernel_rfl) (by kernel_rfl) W),
  e_bin (za rfl) zd (za rfl) (fun W X Y=>by rw [← e2];exact r_shl (by decide) W X Y),
  e_bin (za rfl) zd (za rfl) (fun W X Y=>by rw [← e3];exact r_shr (by decide) W X Y),
  e_op1 (za rfl) (za rfl) (fun W=>by rw [← e4];exact r_cvi (by kernel_rfl) (by kernel_rfl) W),
  e_bin (za rfl) (za rfl) (za rfl) (zL (congrArg some e5)),
  e_op1 (za rfl) (za rfl) (fun W=>by rw [← e6];exact r_cvi (by kernel_rfl) (by kernel_rfl) W),
  zht (c:=cB) (x:=bI v6) (zv rfl) zcA (.inr ⟨rfl,rfl⟩) (by rw [e8];rfl) rfl (bI_ok s7) rfl s9,
  zoa (E:=5) (l:=v8) (by kernel_rfl) (by kernel_rfl) (by kernel_rfl) rfl (by rw [e10];exact za rfl),
  trivial⟩ mixed ⟨zan (c:=cB) rfl,trivial⟩ (fun R hR p hp s hs=>by
 have hl:zH (qg Tryz.prog 12)=[(3,lp Tryz.prog 12 0)]:=by kernel_rfl
 rw [hl] at hp
 simp only [List.mem_cons,List.not_mem_nil,or_false] at hp
 rcases hp with rfl
 ·have e:s=wi_S:=(Option.some.inj hs).symm
  subst e;exact L_wi R hR) (by kernel_rfl))
theorem zjp {n:Int}:∃c:Nat,c<128∧(encI n).dropLast++encN c=encI n:=by
 have key:∀c:Nat,∃d:Nat,d<128∧(encN c).dropLast++encN d=encN c:=by
  intro c
  induction c using Nat.strongRecOn with
  | _ c ih =>
   by_cases h:c<128
   ·exact ⟨c,h,by rw [qx h];rfl⟩
   ·obtain ⟨d,hd,e⟩:=ih (c / 128) (by omega)
    refine ⟨d,hd,?_⟩
    rw [zbd h,List.dropLast_cons_of_ne_nil (zjo _),List.cons_append,e]
 exact key _
theorem w_int {w0:World} (n:Int) (r:List UInt8) (hr:encI n=r) (hn:InI n):Fun (KN w0) Tryz.prog 12 [.o (.c (pI n))] (.o (.c (pS r))):=by
 have hz:=zmf hn
 obtain ⟨v1,e1⟩:∃v,(IntKind.u64.wrap n)=v:=⟨_,rfl⟩
 obtain ⟨v2,e2⟩:∃v,(IntKind.u64.wrap (v1*2 ^ min ((1:Int):Int).toNat IntKind.u64.bits))=v:=⟨_,rfl⟩
 obtain ⟨v3,e3⟩:∃v,((n:Int).fdiv (2 ^ min ((63:Int):Int).toNat IntKind.i64.bits))=v:=⟨_,rfl⟩
 obtain ⟨v4,e4⟩:∃v,(IntKind.u64.wrap v3)=v:=⟨_,rfl⟩
 obtain ⟨v5,e5⟩:∃v,(IntKind.u64.wrap (BitVec.ofInt IntKind.u64.bits v2 ^^^ BitVec.ofInt IntKind.u64.bits v4).toNat)=v:=⟨_,rfl⟩
 obtain ⟨c2,o2,hO_wi⟩:∃(c2:Int) (o2:(List UInt8)),c2=(((encI n).getLast?.getD 0).toNat:Int)∧o2=(encI n).dropLast:=⟨_,_,rfl,rfl⟩
 obtain ⟨v6,e6⟩:∃v,(IntKind.u8.wrap c2)=v:=⟨_,rfl⟩
 have s7:0≤v6∧v6<256:=by (first | (rw [← e6,hO_wi.1,wrap8];omega) | (have h1:=zr hn;have h2:(encI n).dropLast.length=(encI n).length - 1:=(by simp);rw [← hO_wi.2] at h2;omega))
 obtain ⟨v8,e8⟩:∃v,(o2++[bI v6])=v:=⟨_,rfl⟩
 have s9:(o2.length+1)*1≤1099511627776:=by (first | (rw [← e6,hO_wi.1,wrap8];omega) | (have h1:=zr hn;have h2:(encI n).dropLast.length=(encI n).length - 1:=(by simp);rw [← hO_wi.2] at h2;omega))
 obtain ⟨v10,e10⟩:∃v,(v8)=v:=⟨_,rfl⟩
 refine Fun.imp (wi_p0 n v1 v2 v3 v4 v5 c2 o2 v6 v8 v10 e1 e2 e3 e4 e5 e6 e8 e10 s7 s9 (fun R hR=>wi_ok n v1 v2 v3 v4 v5  c2 o2 rfl rfl rfl rfl rfl rfl rfl rfl rfl R hR hn (by rw [← e5,← e4,← e3,← e2,← e1];exact hz) hO_wi)) (fun _ _ _ h=>h) (fun v W D h=>?_)
 have r0:r=v10:=by
  obtain ⟨c,hc,e⟩:=zjp (n:=n)
  have h2:=(zhw e hc).2
  rw [← hr,← e10,← e8,← e6,hO_wi.1,hO_wi.2,← h2]
  rw [qx hc] at e
  rw [wrap8,Nat.mod_eq_of_lt (by omega)]
  exact e.symm
 rw [r0];exact h
end Go.Proofs.YtjcegdldgjphiaaGreatDoor
namespace Go.Proofs.YtjcegdldgjphiaaGreatDoor
open Go.RowKit Go.Shelf
theorem wri {n:Int} (h:-9223372036854775808≤n∧n<9223372036854775808):IntKind.i64.wrap n=n:=by rw [IntKind.wrap_i64];omega
theorem tm7 (c:Nat):((c:Int)).tmod 128=((c%128:Nat):Int):=rfl
theorem td7 (c:Nat):((c:Int)).tdiv 128=((c / 128:Nat):Int):=rfl
def TxW (s:List UInt8):Prop:=s.length≤9223372036854775700
def InP (p:Pl):Prop:=InV p.1∧InI p.2
theorem zcg {v:V3} (h:InV v):(encV v).length≤30:=by
 unfold encV
 have h1:=zr h.1;have h2:=zr h.2.1;have h3:=zr h.2.2
 simp only [List.length_append];omega
theorem zhv {v:Pl} (h:InP v):(encP v).length≤40:=by
 unfold encP
 have h1:=zcg h.1;have h2:=zr h.2
 simp only [List.length_append];omega
theorem zuz {w0:World} (n:Int) (v1:Bool) (v3:Int) (v4:Int) (e1:(decide (n ≥ (0:Int)))=v1) (e3:(IntKind.u64.wrap n)=v3) (e4:(IntKind.u64.wrap ((2:Int)*v3))=v4) (h2:v1=true):Fun (KN w0) Tryz.prog 38 [.o (.c (pI n))] (.o (.c (pV (.int .u64 v4)))):=
 zi (zl (F:=FL [pI n,pB v1] [] [(5000,pV (.int .u64 v3)),(5001,pV (.int .u64 v4))]) (C:=[(1000002,.bin .geq 3 (yh 0) (LF (.k (.int .i64 0))) (yh 1)),
  (10001,.fb 1 true),
  (1000004,.op (.cv 3 72) [yh 0] [] (yh 5000)),
  (1000005,.bin .mul 72 (LF (.k (.int .u64 2))) (yh 5000) (yh 5001))]) (k:=⟨38,[yh 0],[],yh 5001,[]⟩) 0 (zf ⟨zb,zb,trivial⟩ trivial ⟨⟨rfl,zh⟩,⟨rfl,zh⟩,trivial⟩) ⟨e_bin (za rfl) zd (za rfl) (r_cmp (congrArg some e1)),
  e_fbv h2,
  e_op1 (za rfl) (za rfl) (fun W=>by rw [← e3];exact r_cvi (by kernel_rfl) (by kernel_rfl) W),
  e_bin zd (za rfl) (za rfl) (r_ar (congrArg some e4)),
  trivial⟩ mixed (by kernel_rfl))
theorem zuA {w0:World} (n:Int) (v1:Bool) (v3:Int) (v4:Int) (v5:Int) (v6:Int) (v7:Int) (e1:(decide (n ≥ (0:Int)))=v1) (e3:(IntKind.i64.wrap (n+(1:Int)))=v3) (e4:(IntKind.i64.wrap (0 - v3))=v4) (e5:(IntKind.u64.wrap v4)=v5) (e6:(IntKind.u64.wrap ((2:Int)*v5))=v6) (e7:(IntKind.u64.wrap (v6+(1:Int)))=v7) (h2:v1=false):Fun (KN w0) Tryz.prog 38 [.o (.c (pI n))] (.o (.c (pV (.int .u64 v7)))):=
 zi (zl (F:=FL [pI n,pB v1,pI v3,pI v4] [] [(5000,pV (.int .u64 v5)),(5001,pV (.int .u64 v6)),(5002,pV (.int .u64 v7))]) (C:=[(1000002,.bin .geq 3 (yh 0) (LF (.k (.int .i64 0))) (yh 1)),
  (10001,.fb 1 false),
  (1000004,.bin .add 3 (yh 0) (LF (.k (.int .i64 1))) (yh 2)),
  (1000005,.un .neg (yh 2) (yh 3)),
  (1000006,.op (.cv 3 72) [yh 3] [] (yh 5000)),
  (1000007,.bin .mul 72 (LF (.k (.int .u64 2))) (yh 5000) (yh 5001)),
  (1000008,.bin .add 72 (yh 5001) (LF (.k (.int .u64 1))) (yh 5002))]) (k:=⟨38,[yh 0],[],yh 5002,[]⟩) 0 (zf ⟨zb,zb,zb,zb,trivial⟩ trivial ⟨⟨rfl,zh⟩,⟨rfl,zh⟩,⟨rfl,zh⟩,trivial⟩) ⟨e_bin (za rfl) zd (za rfl) (r_cmp (congrArg some e1)),
  e_fbv h2,
  e_bin (za rfl) zd (za rfl) (r_ar (congrArg some e3)),
  e_un (za rfl) (za rfl) (fun W=>by rw [← e4];exact r_neg W),
  e_op1 (za rfl) (za rfl) (fun W=>by rw [← e5];exact r_cvi (by kernel_rfl) (by kernel_rfl) W),
  e_bin zd (za rfl) (za rfl) (r_ar (congrArg some e6)),
  e_bin (za rfl) zd (za rfl) (r_ar (congrArg some e7)),
  trivial⟩ mixed (by kernel_rfl))
theorem zwz {w0:World} (n r:Int) (hr:(zig n:Int)=r) (hn:InI n):Fun (KN w0) Tryz.prog 38 [.o (.c (pI n))] (.o (.c (pV (.int .u64 r)))):=by
 obtain ⟨v1,e1⟩:∃v,(decide (n ≥ (0:Int)))=v:=⟨_,rfl⟩
 cases h2:v1 with
 | true =>
  obtain ⟨v3,e3⟩:∃v,(IntKind.u64.wrap n)=v:=⟨_,rfl⟩
  obtain ⟨v4,e4⟩:∃v,(IntKind.u64.wrap ((2:Int)*v3))=v:=⟨_,rfl⟩
  refine Fun.imp (zuz n v1 v3 v4 e1 e3 e4 h2) (fun _ _ _ h=>h) (fun v W D h=>?_)
  have r0:r=v4:=by
   have h1:=of_decide_eq_true (e1.trans h2)
   rw [← hr,← e4,← e3,wu64,wu64];unfold zig;unfold InI at hn;rw [if_pos (by omega)];omega
  rw [r0];exact h
 | false =>
  obtain ⟨v3,e3⟩:∃v,(IntKind.i64.wrap (n+(1:Int)))=v:=⟨_,rfl⟩
  obtain ⟨v4,e4⟩:∃v,(IntKind.i64.wrap (0 - v3))=v:=⟨_,rfl⟩
  obtain ⟨v5,e5⟩:∃v,(IntKind.u64.wrap v4)=v:=⟨_,rfl⟩
  obtain ⟨v6,e6⟩:∃v,(IntKind.u64.wrap ((2:Int)*v5))=v:=⟨_,rfl⟩
  obtain ⟨v7,e7⟩:∃v,(IntKind.u64.wrap (v6+(1:Int)))=v:=⟨_,rfl⟩
  refine Fun.imp (zuA n v1 v3 v4 v5 v6 v7 e1 e3 e4 e5 e6 e7 h2) (fun _ _ _ h=>h) (fun v W D h=>?_)
  have r0:r=v7:=by
   have h1:=of_decide_eq_false (e1.trans h2)
   unfold InI at hn
   rw [wri (by omega)] at e3
   subst e3
   rw [wri (by omega)] at e4
   subst e4
   rw [← hr,← e7,← e6,← e5,wu64,wu64,wu64];unfold zig;rw [if_neg (by omega)];omega
  rw [r0];exact h
structure ri_T where
 o:(List UInt8)
 code:Int
def zp4:List Atom:=[.sl 0 (yh 0),.sl 2 (.o (.c (.k (.string ⟨#[]⟩)))),.sl 3 (yh 1),.sl 4 (yh 5001),.sl 5 (yh 0),.sl 6 (yh 5000)]
def ri_S:LoopS:=⟨3,[.sl 0 (yh 0),.sl 2 (.o (.c (.k (.string ⟨#[]⟩)))),.sl 3 (.o (.c (.k (.string ⟨#[]⟩)))),.sl 4 (yh 5000),.sl 5 (yh 0),.sl 6 (yh 5000)],(.x 0),[.sl 0 (yh 0),.sl 2 (.o (.c (.k (.string ⟨#[]⟩)))),.sl 3 (yh 1),.sl 4 (yh 5001),.sl 5 (yh 0),.sl 6 (yh 5000)]⟩
theorem ri_r0 {w0:World} (n:Int) (v1:Int) (o:(List UInt8)) (code:Int) (v501:Bool) (v503:Int) (v504:Int) (v505:Int) (v507:(List UInt8)) (v508:(List UInt8)) (v510:Int) (e501:(decide (code ≥ (128:Int)))=v501) (e503:((code:Int).tmod (128:Int))=v503) (e504:(IntKind.u64.wrap (v503+(128:Int)))=v504) (e505:(IntKind.u8.wrap v504)=v505) (e507:([bI v505])=v507) (e508:(o++v507)=v508) (e510:(IntKind.u64.wrap ((code:Int).tdiv (128:Int)))=v510) (h502:v501=true) (s506:0≤v505∧v505<256) (s509:(((o:List UInt8).length+(v507:List UInt8).length:Nat):Int)≤9223372036854775807) (o':(List UInt8)) (code':Int) (q0:(v508)=o') (q1:(v510)=code') (R:Frm) (hR:R.pm=⟨ntOf Tryz.prog 13,[],[]⟩):Goes (KN w0) Tryz.prog R (lp Tryz.prog 13 0) (FL [pI n,pS o] [] [(5000,pV (.int .u64 v1)),(5001,pV (.int .u64 code))]) zp4 .n (FL [pI n,pS o'] [] [(5000,pV (.int .u64 v1)),(5001,pV (.int .u64 code'))]) zp4:=
 goes (x:=.n) (y:=.n) (Fb:=FL [pI n,pS o,pB v501,pV (.int .u8 v505),pS v507,pS v508] [] [(5000,pV (.int .u64 v1)),(5001,pV (.int .u64 code)),(5002,pV (.int .u64 v503)),(5003,pV (.int .u64 v504)),(5004,pV (.int .u64 v510))]) (stb:=zp4) (tl:=[.sl 0 (yh 0),.sl 2 (.o (.c (.k (.string ⟨#[]⟩)))),.sl 3 (yh 5),.sl 4 (yh 5004),.sl 5 (yh 0),.sl 6 (yh 5000)]) (C:=((1005001,.bin .geq 72 (yh 5001) (LF (.k (.int .u64 128))) (yh 2)) ::
  (10002,.fb 2 true) ::
  (1005004,.bin .rem 72 (yh 5001) (LF (.k (.int .u64 128))) (yh 5002)) ::
  (1005005,.bin .add 72 (yh 5002) (LF (.k (.int .u64 128))) (yh 5003)) ::
  (1005006,.op (.cv 72 5) [yh 5003] [] (yh 3)) ::
  (1005008,.op (.cv 43 9) [LF (.s 5007 0 1 1)] [.bx 5007 5 [.h 3]] (yh 4)) ::
  (1005009,.bin .add 9 (yh 1) (yh 4) (yh 5)) ::
  (1005012,.bin .quo 72 (yh 5001) (LF (.k (.int .u64 128))) (yh 5004)) ::
  []:List (Nat×Ent))) (H:=.no) 5000 (zipA.imp ⟨z_c yy,z_c yy,z_c yy,z_c yy,z_c yy,z_c yy,trivial⟩) (zf ⟨zb,zb,zb,zb,zb,zb,trivial⟩ trivial ⟨⟨rfl,zh⟩,⟨rfl,zh⟩,⟨rfl,zh⟩,⟨rfl,zh⟩,⟨rfl,zh⟩,trivial⟩) ⟨e_bin (za rfl) zd (za rfl) (r_cmp (congrArg some e501)),
  e_fbv h502,
  e_bin (za rfl) zd (za rfl) (r_ar ((zn2 (by decide)).trans (congrArg some e503))),
  e_bin (za rfl) zd (za rfl) (r_ar (congrArg some e504)),
  e_op1 (za rfl) (za rfl) (fun W=>by rw [← e505];exact r_cvi (by kernel_rfl) (by kernel_rfl) W),
  zqW (E:=5) (ps:=[pV (.int .u8 v505)]) (l:=[bI v505]) (by kernel_rfl) (by kernel_rfl) (by kernel_rfl) rfl (zqj (l:=[v505]) ⟨s506,trivial⟩) rfl rfl (by rw [e507];exact za rfl),
  e_bin (za rfl) (za rfl) (za rfl) (fun W X Y=>by rw [← e508];exact r_cat s509 W X Y),
  e_bin (za rfl) zd (za rfl) (r_ar ((zwj (by decide)).trans (congrArg some e510))),
  trivial⟩ mixed hR trivial (fun _ _ _ hs=>by cases hs) (by kernel_rfl:zz (KN w0) Tryz.prog _ .no ⟨ntOf Tryz.prog 13,[],[]⟩ (lp Tryz.prog 13 0) 5000 zp4 .n [.sl 0 (yh 0),.sl 2 (.o (.c (.k (.string ⟨#[]⟩)))),.sl 3 (yh 5),.sl 4 (yh 5004),.sl 5 (yh 0),.sl 6 (yh 5000)]=true) rfl (zipA.imp ⟨z_c yy,z_c yy,z_c (fun β v W h=>(zc rfl β v W).2 (by rw [← q0];exact h)),z_c (fun β v W h=>(zc rfl β v W).2 (by rw [← q1];exact h)),z_c yy,z_c yy,trivial⟩)
theorem ri_r1 {w0:World} (n:Int) (v1:Int) (o:(List UInt8)) (code:Int) (v501:Bool) (e501:(decide (code ≥ (128:Int)))=v501) (h502:v501=false) (o2:(List UInt8)) (c2:Int) (F:Fact) (u0:F.c 0=pI n) (u1:F.c 1=pS o2) (u5000:F.c 5000=pV (.int .u64 v1)) (u5001:F.c 5001=pV (.int .u64 c2)) (q0:(o)=o2) (q1:(code)=c2) (R:Frm) (hR:R.pm=⟨ntOf Tryz.prog 13,[],[]⟩):Goes (KN w0) Tryz.prog R (lp Tryz.prog 13 0) (FL [pI n,pS o] [] [(5000,pV (.int .u64 v1)),(5001,pV (.int .u64 code))]) zp4 (.x 0) F ri_S.out:=
 goes (x:=(.x 0)) (y:=(.x 0)) (Fb:=FL [pI n,pS o,pB v501] [] [(5000,pV (.int .u64 v1)),(5001,pV (.int .u64 code))]) (stb:=zp4) (tl:=[.sl 0 (yh 0),.sl 2 (.o (.c (.k (.string ⟨#[]⟩)))),.sl 3 (yh 1),.sl 4 (yh 5001),.sl 5 (yh 0),.sl 6 (yh 5000)]) (C:=((1005001,.bin .geq 72 (yh 5001) (LF (.k (.int .u64 128))) (yh 2)) ::
  (10002,.fb 2 false) ::
  []:List (Nat×Ent))) (H:=.no) 5000 (zipA.imp ⟨z_c yy,z_c yy,z_c yy,z_c yy,z_c yy,z_c yy,trivial⟩) (zf ⟨zb,zb,zb,trivial⟩ trivial ⟨⟨rfl,zh⟩,⟨rfl,zh⟩,trivial⟩) ⟨e_bin (za rfl) zd (za rfl) (r_cmp (congrArg some e501)),
  e_fbv h502,
  trivial⟩ mixed hR trivial (fun _ _ _ hs=>by cases hs) (by kernel_rfl:zz (KN w0) Tryz.prog _ .no ⟨ntOf Tryz.prog 13,[],[]⟩ (lp Tryz.prog 13 0) 5000 zp4 (.x 0) [.sl 0 (yh 0),.sl 2 (.o (.c (.k (.string ⟨#[]⟩)))),.sl 3 (yh 1),.sl 4 (yh 5001),.sl 5 (yh 0),.sl 6 (yh 5000)]=true) rfl (zipA.imp ⟨z_c (fun β v W h=>(zc u0 β v W).2 h),z_c yy,z_c (fun β v W h=>(zc u1 β v W).2 (by rw [← q0];exact h)),z_c (fun β v W h=>(zc u5001 β v W).2 (by rw [← q1];exact h)),z_c (fun β v W h=>(zc u0 β v W).2 h),z_c (fun β v W h=>(zc u5000 β v W).2 h),trivial⟩)
def ri_X (n:Int) (v1:Int) (t:ri_T) (o2:(List UInt8)) (c2:Int):Prop:=(∃(v501:Bool),((decide (t.code ≥ (128:Int)))=v501)∧(v501=false)∧((t.o)=o2)∧((t.code)=c2)∧True)
def ri_N (n:Int) (v1:Int) (t t':ri_T):Prop:=(∃(v501:Bool),∃(v503:Int),∃(v504:Int),∃(v505:Int),∃(v507:(List UInt8)),∃(v508:(List UInt8)),∃(v510:Int),((decide (t.code ≥ (128:Int)))=v501)∧(((t.code:Int).tmod (128:Int))=v503)∧((IntKind.u64.wrap (v503+(128:Int)))=v504)∧((IntKind.u8.wrap v504)=v505)∧(([bI v505])=v507)∧((t.o++v507)=v508)∧((IntKind.u64.wrap ((t.code:Int).tdiv (128:Int)))=v510)∧(v501=true)∧(0≤v505∧v505<256)∧((((t.o:List UInt8).length+(v507:List UInt8).length:Nat):Int)≤9223372036854775807)∧((v508)=t'.o)∧((v510)=t'.code)∧True)
theorem zvV {w0:World} (n:Int) (v1:Int) (o2:(List UInt8)) (c2:Int) {F:Fact} (u0:F.c 0=pI n) (u1:F.c 1=pS o2) (u5000:F.c 5000=pV (.int .u64 v1)) (u5001:F.c 5001=pV (.int .u64 c2)) (R:Frm) (hR:R.pm=⟨ntOf Tryz.prog 13,[],[]⟩) (J:ri_T→Prop) (m:ri_T→Nat) (hJ:J { o:=[],code:=v1 }) (rounds:∀t,J t→ri_X n v1 t o2 c2∨∃t',ri_N n v1 t t'∧m t'<m t∧J t'):zg (KN w0) Tryz.prog F R ri_S (lp Tryz.prog 13 0):=by
 refine zP (T:=ri_T) (fun t=>FL [pI n,pS t.o] [] [(5000,pV (.int .u64 v1)),(5001,pV (.int .u64 t.code))]) J m { o:=[],code:=v1 } zp4 hJ (zipA.imp ⟨z_c (fun β v W h=>(zc u0 β v W).1 h),z_c yy,z_c yy,z_c (fun β v W h=>(zc u5000 β v W).1 h),z_c (fun β v W h=>(zc u0 β v W).1 h),z_c (fun β v W h=>(zc u5000 β v W).1 h),trivial⟩) rfl fun t ht=>?_
 rcases rounds t ht with hz_ | ⟨t',hz_,hm_,hj_⟩
 ·refine .inl ?_
  rcases hz_ with ⟨v501,e501,h502,q0,q1,_⟩
  ·exact ri_r1  n v1  t.o t.code v501 e501 h502 o2 c2 F u0 u1 u5000 u5001 q0 q1 R hR
 ·refine .inr ⟨t',hm_,hj_,?_⟩
  rcases hz_ with ⟨v501,v503,v504,v505,v507,v508,v510,e501,e503,e504,e505,e507,e508,e510,h502,s506,s509,q0,q1,_⟩
  ·exact ri_r0  n v1  t.o t.code v501 v503 v504 v505 v507 v508 v510 e501 e503 e504 e505 e507 e508 e510 h502 s506 s509 t'.o t'.code q0 q1 R hR
theorem ri_ok {w0:World} (n:Int) (v1:Int) (o2:(List UInt8)) (c2:Int) {F:Fact} (u0:F.c 0=pI n) (u1:F.c 1=pS o2) (u5000:F.c 5000=pV (.int .u64 v1)) (u5001:F.c 5001=pV (.int .u64 c2)) (R:Frm) (hR:R.pm=⟨ntOf Tryz.prog 13,[],[]⟩) (hn:InI n) (hz:v1=(zig n:Int)) (hO:c2=(((encI n).getLast?.getD 0).toNat:Int)∧o2=(encI n).dropLast):zg (KN w0) Tryz.prog F R ri_S (lp Tryz.prog 13 0):=by
 refine zvV  n v1  o2 c2 u0 u1 u5000 u5001 R hR (fun ⟨o,code⟩=>∃c:Nat,code=(c:Int)∧c<18446744073709551616∧o++encN c=encI n) (fun ⟨o,code⟩=>code.toNat) ⟨zig n,hz,zkK hn,rfl⟩ fun t hJ=>?_
 obtain ⟨o,code⟩:=t
 dsimp only at hJ
 obtain ⟨c,hc,hlt,ho⟩:=hJ
 obtain ⟨v501,e501⟩:∃v,(decide (code ≥ (128:Int)))=v:=⟨_,rfl⟩
 cases h502:v501 with
 | true =>
  obtain ⟨v503,e503⟩:∃v,((code:Int).tmod (128:Int))=v:=⟨_,rfl⟩
  obtain ⟨v504,e504⟩:∃v,(IntKind.u64.wrap (v503+(128:Int)))=v:=⟨_,rfl⟩
  obtain ⟨v505,e505⟩:∃v,(IntKind.u8.wrap v504)=v:=⟨_,rfl⟩
  have s506:0≤v505∧v505<256:=by (first | (subst hc;rw [← e505,← e504,← e503,tm7,wu8,wu64];omega) | (have h1:=congrArg List.length ho;rw [List.length_append] at h1;have h2:=zr hn;rw [← e507];show ((o.length+1:Nat):Int)≤_;omega))
  obtain ⟨v507,e507⟩:∃v,([bI v505])=v:=⟨_,rfl⟩
  obtain ⟨v508,e508⟩:∃v,(o++v507)=v:=⟨_,rfl⟩
  have s509:(((o:List UInt8).length+(v507:List UInt8).length:Nat):Int)≤9223372036854775807:=by (first | (subst hc;rw [← e505,← e504,← e503,tm7,wu8,wu64];omega) | (have h1:=congrArg List.length ho;rw [List.length_append] at h1;have h2:=zr hn;rw [← e507];show ((o.length+1:Nat):Int)≤_;omega))
  obtain ⟨v510,e510⟩:∃v,(IntKind.u64.wrap ((code:Int).tdiv (128:Int)))=v:=⟨_,rfl⟩
  refine .inr ⟨⟨v508,v510⟩,⟨v501,v503,v504,v505,v507,v508,v510,e501,e503,e504,e505,e507,e508,e510,h502,s506,s509,rfl,rfl,trivial⟩,?_,?_⟩
  all_goals (have hb:=of_decide_eq_true (e501.trans h502);subst hc;rw [td7,wu64] at e510;rw [tm7] at e503;subst e503;rw [wu64] at e504;subst e504;rw [wu8] at e505;subst e510)
  ·show ((((c / 128:Nat):Int))%18446744073709551616).toNat<((c:Int)).toNat
   omega
  ·refine ⟨c / 128,by omega,by omega,?_⟩
   rw [zbd (by omega)] at ho
   have hx:v505=((c%128+128:Nat):Int):=by omega
   rw [← e508,← e507,hx,List.append_assoc,← ho];rfl
 | false =>
  refine .inl (⟨v501,e501,h502,?_,?_,trivial⟩)
  all_goals (have hb:=of_decide_eq_false (e501.trans h502);subst hc;obtain ⟨h1,h2⟩:=zhw ho (by omega))
  ·rw [hO.2];exact h1
  ·rw [hO.1];exact h2
theorem ri_p0 {w0:World} (n:Int) (v1:Int) (o2:(List UInt8)) (c2:Int) (v3:Int) (v5:(List UInt8)) (v6:(List UInt8)) (e1:((zig n:Int))=v1) (e3:(IntKind.u8.wrap c2)=v3) (e5:([bI v3])=v5) (e6:(o2++v5)=v6) (s2:InI n) (s4:0≤v3∧v3<256) (s7:(((o2:List UInt8).length+(v5:List UInt8).length:Nat):Int)≤9223372036854775807) (L_ri:∀R:Frm,R.pm=⟨ntOf Tryz.prog 13,[],[]⟩→zg (KN w0) Tryz.prog (FL [pI n,pS o2,pV (.int .u8 v3),pS v5,pS v6] [] [(5000,pV (.int .u64 v1)),(5001,pV (.int .u64 c2))]) R ri_S (lp Tryz.prog 13 0)):Fun (KN w0) Tryz.prog 13 [.o (.c (pI n))] (.o (.c (pS v6))):=
 zi (z8 (F:=FL [pI n,pS o2,pV (.int .u8 v3),pS v5,pS v6] [] [(5000,pV (.int .u64 v1)),(5001,pV (.int .u64 c2))]) (C:=[(1000003,.call ⟨38,[yh 0],[],yh 5000,[]⟩),
  (1001007,.op (.cv 72 5) [yh 5001] [] (yh 2)),
  (1001009,.op (.cv 43 9) [LF (.s 1008 0 1 1)] [.bx 1008 5 [.h 2]] (yh 3)),
  (1001010,.bin .add 9 (yh 1) (yh 3) (yh 4))]) (k:=⟨13,[yh 0],[],yh 4,[]⟩) ⟨[ri_S],[],0⟩ [] 0 (zf ⟨zb,zb,zb,zb,zb,trivial⟩ trivial ⟨⟨rfl,zh⟩,⟨rfl,zh⟩,trivial⟩) ⟨ze (zwz n v1 e1 s2),
  e_op1 (za rfl) (za rfl) (fun W=>by rw [← e3];exact r_cvi (by kernel_rfl) (by kernel_rfl) W),
  zqW (E:=5) (ps:=[pV (.int .u8 v3)]) (l:=[bI v3]) (by kernel_rfl) (by kernel_rfl) (by kernel_rfl) rfl (zqj (l:=[v3]) ⟨s4,trivial⟩) rfl rfl (by rw [e5];exact za rfl),
  e_bin (za rfl) (za rfl) (za rfl) (fun W X Y=>by rw [← e6];exact r_cat s7 W X Y),
  trivial⟩ mixed trivial (fun R hR p hp s hs=>by
 have hl:zH (qg Tryz.prog 13)=[(3,lp Tryz.prog 13 0)]:=by kernel_rfl
 rw [hl] at hp
 simp only [List.mem_cons,List.not_mem_nil,or_false] at hp
 rcases hp with rfl
 ·have e:s=ri_S:=(Option.some.inj hs).symm
  subst e;exact L_ri R hR) (by kernel_rfl))
theorem zpB {w0:World} (n:Int) (r:List UInt8) (hr:encI n=r) (hn:InI n):Fun (KN w0) Tryz.prog 13 [.o (.c (pI n))] (.o (.c (pS r))):=by
 obtain ⟨v1,e1⟩:∃v,((zig n:Int))=v:=⟨_,rfl⟩
 have s2:InI n:=by (first | exact hn | (rw [← e3,hO_ri.1,wrap8];omega) | (have h1:=zr hn;have h2:(encI n).dropLast.length=(encI n).length - 1:=(by simp);rw [← hO_ri.2] at h2;rw [← e5];show ((o2.length+1:Nat):Int)≤_;omega))
 obtain ⟨o2,c2,hO_ri⟩:∃(o2:(List UInt8)) (c2:Int),c2=(((encI n).getLast?.getD 0).toNat:Int)∧o2=(encI n).dropLast:=⟨_,_,rfl,rfl⟩
 obtain ⟨v3,e3⟩:∃v,(IntKind.u8.wrap c2)=v:=⟨_,rfl⟩
 have s4:0≤v3∧v3<256:=by (first | exact hn | (rw [← e3,hO_ri.1,wrap8];omega) | (have h1:=zr hn;have h2:(encI n).dropLast.length=(encI n).length - 1:=(by simp);rw [← hO_ri.2] at h2;rw [← e5];show ((o2.length+1:Nat):Int)≤_;omega))
 obtain ⟨v5,e5⟩:∃v,([bI v3])=v:=⟨_,rfl⟩
 obtain ⟨v6,e6⟩:∃v,(o2++v5)=v:=⟨_,rfl⟩
 have s7:(((o2:List UInt8).length+(v5:List UInt8).length:Nat):Int)≤9223372036854775807:=by (first | exact hn | (rw [← e3,hO_ri.1,wrap8];omega) | (have h1:=zr hn;have h2:(encI n).dropLast.length=(encI n).length - 1:=(by simp);rw [← hO_ri.2] at h2;rw [← e5];show ((o2.length+1:Nat):Int)≤_;omega))
 refine Fun.imp (ri_p0 n v1 o2 c2 v3 v5 v6 e1 e3 e5 e6 s2 s4 s7 (fun R hR=>ri_ok n v1  o2 c2 rfl rfl rfl rfl R hR hn e1.symm hO_ri)) (fun _ _ _ h=>h) (fun v W D h=>?_)
 have r0:r=v6:=by
  obtain ⟨c,hc,e⟩:=zjp (n:=n)
  have h2:=(zhw e hc).2
  rw [← hr,← e6,← e5,← e3,hO_ri.1,hO_ri.2,← h2]
  rw [qx hc] at e
  rw [wrap8,Nat.mod_eq_of_lt (by omega)]
  exact e.symm
 rw [r0];exact h
theorem zkF {w0:World} (s:(List UInt8)) (v1:Int) (v2:(List UInt8)) (v4:(List UInt8)) (e1:(((s:List UInt8).length:Int))=v1) (e2:(encI v1)=v2) (e4:(v2++s)=v4) (s3:InI v1) (s5:(((v2:List UInt8).length+(s:List UInt8).length:Nat):Int)≤9223372036854775807):Fun (KN w0) Tryz.prog 30 [.o (.c (pS s))] (.o (.c (pS v4))):=
 zi (zl (F:=FL [pS s,pI v1,pS v2,pS v4] []) (C:=[(1000002,.op (.len [9] 3) [yh 0] [] (yh 1)),
  (1000003,.call ⟨12,[yh 1],[],yh 2,[]⟩),
  (1000005,.bin .add 9 (yh 2) (yh 0) (yh 3))]) (k:=⟨30,[yh 0],[],yh 3,[]⟩) 0 (zf ⟨zb,zb,zb,zb,trivial⟩) ⟨e_op1 (za rfl) (za rfl) (fun W=>by rw [← e1];exact zhL (by kernel_rfl) W),
  ze (w_int v1 v2 e2 s3),
  e_bin (za rfl) (za rfl) (za rfl) (fun W X Y=>by rw [← e4];exact r_cat s5 W X Y),
  trivial⟩ mixed (by kernel_rfl))
theorem zmH {w0:World} (s r:List UInt8) (hr:encT s=r) (hn:TxW s):Fun (KN w0) Tryz.prog 30 [.o (.c (pS s))] (.o (.c (pS r))):=by
 obtain ⟨v1,e1⟩:∃v,(((s:List UInt8).length:Int))=v:=⟨_,rfl⟩
 obtain ⟨v2,e2⟩:∃v,(encI v1)=v:=⟨_,rfl⟩
 have s3:InI v1:=by (unfold TxW at hn;first | (unfold InI;subst_vars;omega) | (subst_vars;have:=zr (n:=(s.length:Int)) (by unfold InI;omega);omega))
 obtain ⟨v4,e4⟩:∃v,(v2++s)=v:=⟨_,rfl⟩
 have s5:(((v2:List UInt8).length+(s:List UInt8).length:Nat):Int)≤9223372036854775807:=by (unfold TxW at hn;first | (unfold InI;subst_vars;omega) | (subst_vars;have:=zr (n:=(s.length:Int)) (by unfold InI;omega);omega))
 refine Fun.imp (zkF s v1 v2 v4 e1 e2 e4 s3 s5) (fun _ _ _ h=>h) (fun v W D h=>?_)
 have r0:r=v4:=by
  rw [← hr];unfold encT;subst_vars;rfl
 rw [r0];exact h
theorem ztF {w0:World} (s:(List UInt8)) (v1:Int) (v2:(List UInt8)) (v4:(List UInt8)) (e1:(((s:List UInt8).length:Int))=v1) (e2:(encI v1)=v2) (e4:(v2++s)=v4) (s3:InI v1) (s5:(((v2:List UInt8).length+(s:List UInt8).length:Nat):Int)≤9223372036854775807):Fun (KN w0) Tryz.prog 42 [.o (.c (pS s))] (.o (.c (pS v4))):=
 zi (zl (F:=FL [pS s,pI v1,pS v2,pS v4] []) (C:=[(1000002,.op (.len [9] 3) [yh 0] [] (yh 1)),
  (1000003,.call ⟨13,[yh 1],[],yh 2,[]⟩),
  (1000005,.bin .add 9 (yh 2) (yh 0) (yh 3))]) (k:=⟨42,[yh 0],[],yh 3,[]⟩) 0 (zf ⟨zb,zb,zb,zb,trivial⟩) ⟨e_op1 (za rfl) (za rfl) (fun W=>by rw [← e1];exact zhL (by kernel_rfl) W),
  ze (zpB v1 v2 e2 s3),
  e_bin (za rfl) (za rfl) (za rfl) (fun W X Y=>by rw [← e4];exact r_cat s5 W X Y),
  trivial⟩ mixed (by kernel_rfl))
theorem zuB {w0:World} (s r:List UInt8) (hr:encT s=r) (hn:TxW s):Fun (KN w0) Tryz.prog 42 [.o (.c (pS s))] (.o (.c (pS r))):=by
 obtain ⟨v1,e1⟩:∃v,(((s:List UInt8).length:Int))=v:=⟨_,rfl⟩
 obtain ⟨v2,e2⟩:∃v,(encI v1)=v:=⟨_,rfl⟩
 have s3:InI v1:=by (unfold TxW at hn;first | (unfold InI;subst_vars;omega) | (subst_vars;have:=zr (n:=(s.length:Int)) (by unfold InI;omega);omega))
 obtain ⟨v4,e4⟩:∃v,(v2++s)=v:=⟨_,rfl⟩
 have s5:(((v2:List UInt8).length+(s:List UInt8).length:Nat):Int)≤9223372036854775807:=by (unfold TxW at hn;first | (unfold InI;subst_vars;omega) | (subst_vars;have:=zr (n:=(s.length:Int)) (by unfold InI;omega);omega))
 refine Fun.imp (ztF s v1 v2 v4 e1 e2 e4 s3 s5) (fun _ _ _ h=>h) (fun v W D h=>?_)
 have r0:r=v4:=by
  rw [← hr];unfold encT;subst_vars;rfl
 rw [r0];exact h
theorem zmb {w0:World} (x:V3) (v1:(List UInt8)) (v3:(List UInt8)) (v5:(List UInt8)) (v7:(List UInt8)) (v9:(List UInt8)) (e1:(encI x.1)=v1) (e3:(encI x.2.1)=v3) (e5:(v1++v3)=v5) (e7:(encI x.2.2)=v7) (e9:(v5++v7)=v9) (s2:InI x.1) (s4:InI x.2.1) (s6:(((v1:List UInt8).length+(v3:List UInt8).length:Nat):Int)≤9223372036854775807) (s8:InI x.2.2) (s10:(((v5:List UInt8).length+(v7:List UInt8).length:Nat):Int)≤9223372036854775807):Fun (KN w0) Tryz.prog 32 [.o (.g [pI x.1,pI x.2.1,pI x.2.2])] (.o (.c (pS v9))):=
 zi (zl (F:=FL [pI x.1,pI x.2.1,pI x.2.2,pS v1,pS v3,pS v5,pS v7,pS v9] []) (C:=[(1000004,.call ⟨12,[yh 0],[],yh 3,[]⟩),
  (1000007,.call ⟨12,[yh 1],[],yh 4,[]⟩),
  (1000008,.bin .add 9 (yh 3) (yh 4) (yh 5)),
  (1000011,.call ⟨12,[yh 2],[],yh 6,[]⟩),
  (1000012,.bin .add 9 (yh 5) (yh 6) (yh 7))]) (k:=⟨32,[.o (.g [.h 0,.h 1,.h 2])],[],yh 7,[]⟩) 0 (zf ⟨zb,zb,zb,zb,zb,zb,zb,zb,trivial⟩) ⟨ze (w_int x.1 v1 e1 s2),
  ze (w_int x.2.1 v3 e3 s4),
  e_bin (za rfl) (za rfl) (za rfl) (fun W X Y=>by rw [← e5];exact r_cat s6 W X Y),
  ze (w_int x.2.2 v7 e7 s8),
  e_bin (za rfl) (za rfl) (za rfl) (fun W X Y=>by rw [← e9];exact r_cat s10 W X Y),
  trivial⟩ mixed (by kernel_rfl))
theorem w_vec {w0:World} (x:V3) (r:List UInt8) (hr:encV x=r) (hn:InV x):Fun (KN w0) Tryz.prog 32 [.o (.g [pI x.1,pI x.2.1,pI x.2.2])] (.o (.c (pS r))):=by
 obtain ⟨v1,e1⟩:∃v,(encI x.1)=v:=⟨_,rfl⟩
 have s2:InI x.1:=by (first | exact hn.1 | exact hn.2.1 | exact hn.2.2 | (subst_vars;have q1:=zr hn.1;have q2:=zr hn.2.1;have q3:=zr hn.2.2;(try simp only [List.length_append]);omega))
 obtain ⟨v3,e3⟩:∃v,(encI x.2.1)=v:=⟨_,rfl⟩
 have s4:InI x.2.1:=by (first | exact hn.1 | exact hn.2.1 | exact hn.2.2 | (subst_vars;have q1:=zr hn.1;have q2:=zr hn.2.1;have q3:=zr hn.2.2;(try simp only [List.length_append]);omega))
 obtain ⟨v5,e5⟩:∃v,(v1++v3)=v:=⟨_,rfl⟩
 have s6:(((v1:List UInt8).length+(v3:List UInt8).length:Nat):Int)≤9223372036854775807:=by (first | exact hn.1 | exact hn.2.1 | exact hn.2.2 | (subst_vars;have q1:=zr hn.1;have q2:=zr hn.2.1;have q3:=zr hn.2.2;(try simp only [List.length_append]);omega))
 obtain ⟨v7,e7⟩:∃v,(encI x.2.2)=v:=⟨_,rfl⟩
 have s8:InI x.2.2:=by (first | exact hn.1 | exact hn.2.1 | exact hn.2.2 | (subst_vars;have q1:=zr hn.1;have q2:=zr hn.2.1;have q3:=zr hn.2.2;(try simp only [List.length_append]);omega))
 obtain ⟨v9,e9⟩:∃v,(v5++v7)=v:=⟨_,rfl⟩
 have s10:(((v5:List UInt8).length+(v7:List UInt8).length:Nat):Int)≤9223372036854775807:=by (first | exact hn.1 | exact hn.2.1 | exact hn.2.2 | (subst_vars;have q1:=zr hn.1;have q2:=zr hn.2.1;have q3:=zr hn.2.2;(try simp only [List.length_append]);omega))
 refine Fun.imp (zmb x v1 v3 v5 v7 v9 e1 e3 e5 e7 e9 s2 s4 s6 s8 s10) (fun _ _ _ h=>h) (fun v W D h=>?_)
 have r0:r=v9:=by
  rw [← hr];unfold encV;subst_vars;rfl
 rw [r0];exact h
theorem zuC {w0:World} (x:V3) (v1:(List UInt8)) (v3:(List UInt8)) (v5:(List UInt8)) (v7:(List UInt8)) (v9:(List UInt8)) (e1:(encI x.1)=v1) (e3:(encI x.2.1)=v3) (e5:(v1++v3)=v5) (e7:(encI x.2.2)=v7) (e9:(v5++v7)=v9) (s2:InI x.1) (s4:InI x.2.1) (s6:(((v1:List UInt8).length+(v3:List UInt8).length:Nat):Int)≤9223372036854775807) (s8:InI x.2.2) (s10:(((v5:List UInt8).length+(v7:List UInt8).length:Nat):Int)≤9223372036854775807):Fun (KN w0) Tryz.prog 44 [.o (.g [pI x.1,pI x.2.1,pI x.2.2])] (.o (.c (pS v9))):=
 zi (zl (F:=FL [pI x.1,pI x.2.1,pI x.2.2,pS v1,pS v3,pS v5,pS v7,pS v9] []) (C:=[(1000004,.call ⟨13,[yh 0],[],yh 3,[]⟩),
  (1000007,.call ⟨13,[yh 1],[],yh 4,[]⟩),
  (1000008,.bin .add 9 (yh 3) (yh 4) (yh 5)),
  (1000011,.call ⟨13,[yh 2],[],yh 6,[]⟩),
  (1000012,.bin .add 9 (yh 5) (yh 6) (yh 7))]) (k:=⟨44,[.o (.g [.h 0,.h 1,.h 2])],[],yh 7,[]⟩) 0 (zf ⟨zb,zb,zb,zb,zb,zb,zb,zb,trivial⟩) ⟨ze (zpB x.1 v1 e1 s2),
  ze (zpB x.2.1 v3 e3 s4),
  e_bin (za rfl) (za rfl) (za rfl) (fun W X Y=>by rw [← e5];exact r_cat s6 W X Y),
  ze (zpB x.2.2 v7 e7 s8),
  e_bin (za rfl) (za rfl) (za rfl) (fun W X Y=>by rw [← e9];exact r_cat s10 W X Y),
  trivial⟩ mixed (by kernel_rfl))
theorem zvl {w0:World} (x:V3) (r:List UInt8) (hr:encV x=r) (hn:InV x):Fun (KN w0) Tryz.prog 44 [.o (.g [pI x.1,pI x.2.1,pI x.2.2])] (.o (.c (pS r))):=by
 obtain ⟨v1,e1⟩:∃v,(encI x.1)=v:=⟨_,rfl⟩
 have s2:InI x.1:=by (first | exact hn.1 | exact hn.2.1 | exact hn.2.2 | (subst_vars;have q1:=zr hn.1;have q2:=zr hn.2.1;have q3:=zr hn.2.2;(try simp only [List.length_append]);omega))
 obtain ⟨v3,e3⟩:∃v,(encI x.2.1)=v:=⟨_,rfl⟩
 have s4:InI x.2.1:=by (first | exact hn.1 | exact hn.2.1 | exact hn.2.2 | (subst_vars;have q1:=zr hn.1;have q2:=zr hn.2.1;have q3:=zr hn.2.2;(try simp only [List.length_append]);omega))
 obtain ⟨v5,e5⟩:∃v,(v1++v3)=v:=⟨_,rfl⟩
 have s6:(((v1:List UInt8).length+(v3:List UInt8).length:Nat):Int)≤9223372036854775807:=by (first | exact hn.1 | exact hn.2.1 | exact hn.2.2 | (subst_vars;have q1:=zr hn.1;have q2:=zr hn.2.1;have q3:=zr hn.2.2;(try simp only [List.length_append]);omega))
 obtain ⟨v7,e7⟩:∃v,(encI x.2.2)=v:=⟨_,rfl⟩
 have s8:InI x.2.2:=by (first | exact hn.1 | exact hn.2.1 | exact hn.2.2 | (subst_vars;have q1:=zr hn.1;have q2:=zr hn.2.1;have q3:=zr hn.2.2;(try simp only [List.length_append]);omega))
 obtain ⟨v9,e9⟩:∃v,(v5++v7)=v:=⟨_,rfl⟩
 have s10:(((v5:List UInt8).length+(v7:List UInt8).length:Nat):Int)≤9223372036854775807:=by (first | exact hn.1 | exact hn.2.1 | exact hn.2.2 | (subst_vars;have q1:=zr hn.1;have q2:=zr hn.2.1;have q3:=zr hn.2.2;(try simp only [List.length_append]);omega))
 refine Fun.imp (zuC x v1 v3 v5 v7 v9 e1 e3 e5 e7 e9 s2 s4 s6 s8 s10) (fun _ _ _ h=>h) (fun v W D h=>?_)
 have r0:r=v9:=by
  rw [← hr];unfold encV;subst_vars;rfl
 rw [r0];exact h
theorem ziK {w0:World} (x:Pl) (v1:(List UInt8)) (v3:(List UInt8)) (v5:(List UInt8)) (e1:(encV x.1)=v1) (e3:(encI x.2)=v3) (e5:(v1++v3)=v5) (s2:InV x.1) (s4:InI x.2) (s6:(((v1:List UInt8).length+(v3:List UInt8).length:Nat):Int)≤9223372036854775807):Fun (KN w0) Tryz.prog 64 [.o (.g [pI x.1.1,pI x.1.2.1,pI x.1.2.2,pI x.2])] (.o (.c (pS v5))):=
 zi (zl (F:=FL [pI x.1.1,pI x.1.2.1,pI x.1.2.2,pI x.2,pS v1,pS v3,pS v5] []) (C:=[(1000004,.call ⟨32,[.o (.g [.h 0,.h 1,.h 2])],[],yh 4,[]⟩),
  (1000007,.call ⟨12,[yh 3],[],yh 5,[]⟩),
  (1000008,.bin .add 9 (yh 4) (yh 5) (yh 6))]) (k:=⟨64,[.o (.g [.h 0,.h 1,.h 2,.h 3])],[],yh 6,[]⟩) 0 (zf ⟨zb,zb,zb,zb,zb,zb,zb,trivial⟩) ⟨ze (w_vec x.1 v1 e1 s2),
  ze (w_int x.2 v3 e3 s4),
  e_bin (za rfl) (za rfl) (za rfl) (fun W X Y=>by rw [← e5];exact r_cat s6 W X Y),
  trivial⟩ mixed (by kernel_rfl))
theorem znP {w0:World} (x:Pl) (r:List UInt8) (hr:encP x=r) (hn:InP x):Fun (KN w0) Tryz.prog 64 [.o (.g [pI x.1.1,pI x.1.2.1,pI x.1.2.2,pI x.2])] (.o (.c (pS r))):=by
 obtain ⟨v1,e1⟩:∃v,(encV x.1)=v:=⟨_,rfl⟩
 have s2:InV x.1:=by (first | exact hn.1 | exact hn.2 | (subst_vars;have q1:=zcg hn.1;have q2:=zr hn.2;omega))
 obtain ⟨v3,e3⟩:∃v,(encI x.2)=v:=⟨_,rfl⟩
 have s4:InI x.2:=by (first | exact hn.1 | exact hn.2 | (subst_vars;have q1:=zcg hn.1;have q2:=zr hn.2;omega))
 obtain ⟨v5,e5⟩:∃v,(v1++v3)=v:=⟨_,rfl⟩
 have s6:(((v1:List UInt8).length+(v3:List UInt8).length:Nat):Int)≤9223372036854775807:=by (first | exact hn.1 | exact hn.2 | (subst_vars;have q1:=zcg hn.1;have q2:=zr hn.2;omega))
 refine Fun.imp (ziK x v1 v3 v5 e1 e3 e5 s2 s4 s6) (fun _ _ _ h=>h) (fun v W D h=>?_)
 have r0:r=v5:=by
  rw [← hr];unfold encP;subst_vars;rfl
 rw [r0];exact h
end Go.Proofs.YtjcegdldgjphiaaGreatDoor
namespace Go.Proofs.YtjcegdldgjphiaaGreatDoor
def lfO (st:St):List UInt8:=st.getD []
def bdO (st:St):Bool:=st.isNone
theorem qe {st:St}:bdO st=true↔st=none:=by cases st<;>simp [bdO]
theorem zN {st:St}:bdO st=false↔∃l,st=some l:=by cases st<;>simp [bdO]
theorem zd3 (st:St):leftN st=(lfO st).length:=by cases st<;>rfl
def RdJ (l:List UInt8) (k c:Nat):Prop:=k≤9∧c<2 ^ (7*k)∧decGo 0 l=(decGo k (l.drop k)).map fun x=>(c+2 ^ (7*k)*x.1,x.2)
theorem ze3 (l:List UInt8):RdJ l 0 0:=by
 refine ⟨by decide,by decide,?_⟩
 rw [List.drop_zero]
 cases decGo 0 l with
 | none=>rfl
 | some x=>simp
def badB (k:Nat) (b:UInt8):Prop:=(k=9∧1<b.toNat)∨(0<k∧b.toNat=0)
theorem zbC {l:List UInt8} {k:Nat} {b:UInt8} (h:l[k]?=some b):l.drop k=b::l.drop (k+1):=by
 obtain ⟨hk,e⟩:=List.getElem?_eq_some_iff.1 h
 rw [List.drop_eq_getElem_cons hk,e]
theorem zgP {l:List UInt8} {k c:Nat} {b:UInt8} (h:RdJ l k c) (hb:l[k]?=some b) (hn:badB k b):decGo 0 l=none:=by
 unfold badB at hn
 rw [h.2.2,zbC hb,decGo,if_pos hn];rfl
theorem zno {l:List UInt8} {k c:Nat} (h:RdJ l k c) (hk:l.length≤k):decGo 0 l=none:=by
 rw [h.2.2,List.drop_of_length_le hk,decGo];rfl
theorem qW {l:List UInt8} {k c:Nat} {b:UInt8} (h:RdJ l k c) (hb:l[k]?=some b) (hn:¬ badB k b) (hs:b.toNat<128):decGo 0 l=some (c+2 ^ (7*k)*b.toNat,l.drop (k+1)):=by
 unfold badB at hn
 rw [h.2.2,zbC hb,decGo,if_neg hn,if_pos hs];rfl
theorem qX {l:List UInt8} {k c:Nat} {b:UInt8} (h:RdJ l k c) (hb:l[k]?=some b) (hn:¬ badB k b) (hs:¬ b.toNat<128):RdJ l (k+1) (c+2 ^ (7*k)*(b.toNat - 128)):=by
 have h9:k≠9:=fun e=>hn (.inl ⟨e,by omega⟩)
 have h1:=h.1
 have e1:2 ^ (7*(k+1))=128*2 ^ (7*k):=by
  rw [show 7*(k+1)=7+7*k by omega,Nat.pow_add]
 refine ⟨by omega,?_,?_⟩
 ·have h2:=h.2.1
  have h3:=b.toNat_lt
  rw [e1]
  have:2 ^ (7*k)*(b.toNat - 128)≤2 ^ (7*k)*127:=Nat.mul_le_mul_left _ (by omega)
  omega
 ·unfold badB at hn
  rw [h.2.2,zbC hb,decGo,if_neg hn,if_neg hs]
  cases decGo (k+1) (l.drop (k+1)) with
  | none=>simp only [Option.map_none]
  | some x =>
   simp only [Option.map_some,Option.some.injEq,Prod.mk.injEq,and_true]
   rw [e1]
   generalize 2 ^ (7*k)=y
   rw [Nat.mul_add,← Nat.mul_assoc y 128,Nat.mul_comm y 128,Nat.add_assoc]
theorem zhp {l r:List UInt8} {c:Nat} (h:decGo 0 l=some (c,r)):c<18446744073709551616:=by
 have:=(zct l 0 c r (by decide) h).2.1
 rwa [roof0] at this
theorem rd_or {l:List UInt8} {k c:Nat} {b:UInt8} (h:RdJ l k c) (hn:¬ badB k b):IntKind.u64.wrap ((BitVec.ofInt IntKind.u64.bits (c:Int) ||| BitVec.ofInt IntKind.u64.bits (IntKind.u64.wrap (((b.toNat%128:Nat):Int)*2 ^ min ((7*k:Nat):Int).toNat IntKind.u64.bits))).toNat:Int)=((c+2 ^ (7*k)*(b.toNat%128):Nat):Int):=by
 have h1:=h.1
 have hm:min ((7*k:Nat):Int).toNat IntKind.u64.bits=7*k:=by
  rw [Int.toNat_natCast]
  exact Nat.min_eq_left (by show 7*k≤64;omega)
 rw [hm]
 have hp:2 ^ (7*k)*(b.toNat%128)+2 ^ (7*k)≤18446744073709551616:=by
  by_cases h9:k=9
  ·subst h9
   have:b.toNat%128≤1:=by
    rcases Nat.lt_or_ge 1 b.toNat with h2 | h2
    ·exact absurd (.inl ⟨rfl,h2⟩) hn
    ·omega
   have:2 ^ (7*9)*(b.toNat%128)≤2 ^ (7*9)*1:=Nat.mul_le_mul_left _ this
   have e:2 ^ (7*9)=9223372036854775808:=by decide
   omega
  ·have e1:2 ^ (7*k)≤2 ^ 56:=Nat.pow_le_pow_right (by decide) (by omega)
   have e2:(2:Nat) ^ 56=72057594037927936:=by decide
   have:2 ^ (7*k)*(b.toNat%128)≤2 ^ (7*k)*127:=Nat.mul_le_mul_left _ (by omega)
   omega
 have hw:IntKind.u64.wrap (((b.toNat%128:Nat):Int)*2 ^ (7*k))=(((b.toNat%128)*2 ^ (7*k):Nat):Int):=by
  rw [wu64]
  have e:((b.toNat%128:Nat):Int)*2 ^ (7*k)=(((b.toNat%128)*2 ^ (7*k):Nat):Int):=by
   rw [Int.natCast_mul,Int.natCast_pow];rfl
  rw [e]
  rw [Nat.mul_comm] at hp
  have hpos:0<2 ^ (7*k):=Nat.pow_pos (by decide)
  generalize b.toNat%128*2 ^ (7*k)=y at hp ⊢
  omega
 rw [hw,znd h.2.1 (by rw [Nat.mul_comm] at hp;have:=h.2.1;omega),Nat.mul_comm]
end Go.Proofs.YtjcegdldgjphiaaGreatDoor
namespace Go.Proofs.YtjcegdldgjphiaaGreatDoor
open Go.RowKit Go.Shelf
theorem zlY {w0:World} (st:St):BFun false (KN w0) Tryz.prog 23 [.o (.c (.p 0 0))] [(62,[.d (pS (lfO st)),.d (pB (bdO st))])] (.o (.c (.d (pB (bdO st))))) [(62,[.d (pS (lfO st)),.d (pB (bdO st))])] :=
 con_b (pan:=false) (zl (F:=FL [pS (lfO st),pB (bdO st)] []) (C:=[(1000002,.bin .eql 45 (LF (.p 0 0)) (LF (.k (.pointer none))) (LF (.k (.bool false))))]) (k:=⟨23,[.o (.c (.p 0 0))],[.bx 0 62 [.h 0,.h 1]],yh 1,[.bx 0 62 [.h 0,.h 1]]⟩) 0 (zf ⟨zb,zb,trivial⟩) ⟨zjh (by kernel_rfl),
  trivial⟩ mixed (by kernel_rfl))
theorem w_bad {w0:World} (st:St) (o:Bool) (ho:bdO st=o):BFun false (KN w0) Tryz.prog 23 [.o (.c (.p 0 0))] [(62,[.d (pS (lfO st)),.d (pB (bdO st))])] (.o (.c (.d (pB o)))) [(62,[.d (pS (lfO st)),.d (pB (bdO st))])]:=by
 have r0:o=bdO st:=by
  rw [← ho]
 rw [r0];exact zlY st
theorem zbU {w0:World} (st:St):BFun false (KN w0) Tryz.prog 23 [.o (.c (.p 0 0))] [(62,[.d (pS (lfO st)),.d (pB (bdO st))])] (.o (.c (.d (pB (bdO st))))) [(62,[.d (pS (lfO st)),.d (pB (bdO st))])]:=w_bad st _ rfl
theorem zkt {w0:World} (st:St) (v1:Int) (e1:(((lfO st:List UInt8).length:Int))=v1):BFun false (KN w0) Tryz.prog 21 [.o (.c (.p 0 0))] [(62,[.d (pS (lfO st)),.d (pB (bdO st))])] (.o (.c (.d (pI v1)))) [(62,[.d (pS (lfO st)),.d (pB (bdO st))])] :=
 con_b (pan:=false) (zl (F:=FL [pS (lfO st),pB (bdO st),pI v1] []) (C:=[(1000002,.bin .eql 45 (LF (.p 0 0)) (LF (.k (.pointer none))) (LF (.k (.bool false)))),
  (1000007,.op (.len [9] 3) [yh 0] [] (yh 2))]) (k:=⟨21,[.o (.c (.p 0 0))],[.bx 0 62 [.h 0,.h 1]],yh 2,[.bx 0 62 [.h 0,.h 1]]⟩) 0 (zf ⟨zb,zb,zb,trivial⟩) ⟨zjh (by kernel_rfl),
  e_op1 (za rfl) (za rfl) (fun W=>by rw [← e1];exact zhL (by kernel_rfl) W),
  trivial⟩ mixed (by kernel_rfl))
theorem zcU {w0:World} (st:St) (o:Int) (ho:(leftN st:Int)=o):BFun false (KN w0) Tryz.prog 21 [.o (.c (.p 0 0))] [(62,[.d (pS (lfO st)),.d (pB (bdO st))])] (.o (.c (.d (pI o)))) [(62,[.d (pS (lfO st)),.d (pB (bdO st))])]:=by
 obtain ⟨v1,e1⟩:∃v,(((lfO st:List UInt8).length:Int))=v:=⟨_,rfl⟩
 have r0:o=v1:=by
  rw [← ho,zd3,e1]
 rw [r0];exact zkt st v1 e1
theorem ziS {w0:World} (st:St):BFun false (KN w0) Tryz.prog 67 [.o (.c (.p 0 0))] [(62,[.d (pS (lfO st)),.d (pB (bdO st))])] (.t []) [(62,[.d (pV (.string ⟨#[]⟩)),.d (pV (.bool true))])] :=
 con_b (pan:=false) (zl (F:=FL [pS (lfO st),pB (bdO st)] []) (C:=[(1000001,.bin .neq 45 (LF (.p 0 0)) (LF (.k (.pointer none))) (LF (.k (.bool true))))]) (k:=⟨67,[.o (.c (.p 0 0))],[.bx 0 62 [.h 0,.h 1]],.t [],[.bx 0 62 [.k (.string ⟨#[]⟩),.k (.bool true)]]⟩) 0 (zf ⟨zb,zb,trivial⟩) ⟨zaA (by kernel_rfl),
  trivial⟩ mixed (by kernel_rfl))
theorem zc2 {w0:World} (st:St):BFun false (KN w0) Tryz.prog 67 [.o (.c (.p 0 0))] [(62,[.d (pS (lfO st)),.d (pB (bdO st))])] (.t []) [(62,[.d (pV (.string ⟨#[]⟩)),.d (pV (.bool true))])]:=by
 exact ziS st
theorem w_new {w0:World} (s:(List UInt8)):NFun (KN w0) Tryz.prog 18 [.o (.c (pS s))] 62 [pS s,pV (.bool false)] :=
 zmV (F:=FL [pS s] []) (C:=[]) (as':=[yh 0]) (ls:=[.h 0,.k (.bool false)]) ⟨[],[],0⟩ [] 0 (zf ⟨zb,trivial⟩) trivial mixed trivial (fun _ _ _ _ _ hs=>by cases hs) (by kernel_rfl) rfl rfl
structure wrA_T where
 code:Int
 i:Int
def zC:List Atom:=[.sl 0 (.o (.c (.p 0 0))),.sl 3 (yh 5000),.sl 6 (.o (.c (.p 0 0))),.sl 7 (.o (.c (.k (.bool false)))),.sl 8 (.o (.c (.p 0 0))),.sl 9 (.o (.c (.p 0 0))),.sl 10 (.o (.c (.p 0 0))),.sl 11 (yh 0),.sl 12 (yh 1),.sl 13 (yh 2),.sl 14 (yh 3),.bx 0 62 [.h 0,.k (.bool false)]]
def wrA_S:LoopS:=⟨5,[.sl 0 (.o (.c (.p 0 0))),.sl 3 (.o (.c (.k (.int .u64 0)))),.sl 6 (.o (.c (.p 0 0))),.sl 7 (.o (.c (.k (.bool false)))),.sl 8 (.o (.c (.p 0 0))),.sl 9 (.o (.c (.p 0 0))),.sl 10 (.o (.c (.p 0 0))),.sl 11 (yh 0),.sl 12 (yh 1),.sl 13 (yh 2),.sl 14 (.o (.c (.k (.int .i64 0)))),.bx 0 62 [.h 0,.k (.bool false)]],.r,[.sl 0 (.o (.c (.p 0 0))),.sl 2 (yh 3),.sl 6 (.o (.c (.p 0 0))),.sl 7 (.o (.c (.k (.bool false)))),.sl 8 (.o (.c (.p 0 0))),.sl 9 (.o (.c (.p 0 0))),.sl 10 (.o (.c (.p 0 0))),.sl 11 (yh 0),.sl 12 (yh 1),.sl 13 (yh 2),.bx 0 62 [.h 4,.k (.bool false)]]⟩
theorem zoN {w0:World} (l:(List UInt8)) (v1:Int) (v2:Int) (code:Int) (i:Int) (v501:Bool) (n503:Nat) (b504:UInt8) (v507:Bool) (v509:Bool) (v511:Bool) (v513:Bool) (v515:Int) (v516:Int) (v517:Int) (v519:Int) (v520:Int) (v521:Bool) (v523:Int) (n524:Nat) (v526:(List UInt8)) (v528:Int) (v529:Int) (v530:Int) (v531:Int) (v532:Int) (v533:Int) (e501:(decide (i<v2))=v501) (e507:((i == (9:Int)))=v507) (e509:(decide ((b504.toNat:Int) > (1:Int)))=v509) (e511:(decide (i > (0:Int)))=v511) (e513:(((b504.toNat:Int) == (0:Int)))=v513) (e515:(IntKind.u8.wrap (BitVec.ofInt IntKind.u8.bits (b504.toNat:Int) &&& BitVec.ofInt IntKind.u8.bits (127:Int)).toNat)=v515) (e516:(IntKind.u64.wrap v515)=v516) (e517:(IntKind.i64.wrap ((7:Int)*i))=v517) (e519:(IntKind.u64.wrap (v516*2 ^ min (v517:Int).toNat IntKind.u64.bits))=v519) (e520:(IntKind.u64.wrap (BitVec.ofInt IntKind.u64.bits code ||| BitVec.ofInt IntKind.u64.bits v519).toNat)=v520) (e521:(decide ((b504.toNat:Int)<(128:Int)))=v521) (e523:(IntKind.i64.wrap (i+(1:Int)))=v523) (e526:((l:List UInt8).drop n524)=v526) (e528:((v520:Int).fdiv (2 ^ min ((1:Int):Int).toNat IntKind.u64.bits))=v528) (e529:(IntKind.i64.wrap v528)=v529) (e530:(IntKind.u64.wrap (BitVec.ofInt IntKind.u64.bits v520 &&& BitVec.ofInt IntKind.u64.bits (1:Int)).toNat)=v530) (e531:(IntKind.i64.wrap v530)=v531) (e532:(IntKind.i64.wrap (0 - v531))=v532) (e533:(IntKind.i64.wrap (BitVec.ofInt IntKind.i64.bits v529 ^^^ BitVec.ofInt IntKind.i64.bits v532).toNat)=v533) (h502:v501=true) (s505:i=(n503:Int)) (s506:(l:List UInt8)[n503]?=some b504) (h508:v507=true) (h510:v509=false) (s512:v511=true) (h514:v513=false) (s518:0≤v517) (h522:v521=true) (s525:v523=(n524:Int)) (s527:n524≤(l:List UInt8).length) (o:Int) (l2:(List UInt8)) (F:Fact) (u0:F.c 0=pS l) (u1:F.c 1=pI v1) (u2:F.c 2=pI v2) (u3:F.c 3=pI o) (u4:F.c 4=pS l2) (q0:(v533)=o) (q1:(v526)=l2) (R:Frm) (hR:R.pm=⟨ntOf Tryz.prog 36,[0],[]⟩):Goes (KN w0) Tryz.prog R (lp Tryz.prog 36 0) (FL [pS l,pI v1,pI v2,pI i] [] [(5000,pV (.int .u64 code))]) zC .r F wrA_S.out:=
 goes (x:=.r) (y:=.r) (Fb:=FL [pS l,pI v1,pI v2,pI i,pB v501,pV (.int .u8 (b504.toNat:Int)),pB v507,pB v509,pB v511,pB v513,pV (.int .u8 v515),pI v517,pB v521,pI v523,pS v526,pI v529,pI v531,pI v532,pI v533] [] [(5000,pV (.int .u64 code)),(5001,pV (.int .u64 v516)),(5002,pV (.int .u64 v519)),(5003,pV (.int .u64 v520)),(5004,pV (.int .u64 v528)),(5005,pV (.int .u64 v530))]) (stb:=zC) (tl:=[.sl 0 (.o (.c (.p 0 0))),.sl 2 (yh 18),.sl 6 (.o (.c (.p 0 0))),.sl 7 (.o (.c (.k (.bool false)))),.sl 8 (.o (.c (.p 0 0))),.sl 9 (.o (.c (.p 0 0))),.sl 10 (.o (.c (.p 0 0))),.sl 11 (yh 0),.sl 12 (yh 1),.sl 13 (yh 2),.bx 0 62 [.h 14,.k (.bool false)]]) (C:=((1005000,.bin .lss 3 (yh 3) (yh 2) (yh 4)) ::
  (10004,.fb 4 true) ::
  (1005008,.op (.ix 9) [yh 0,yh 3] [] (yh 5)) ::
  (1005011,.bin .eql 3 (yh 3) (LF (.k (.int .i64 9))) (yh 6)) ::
  (10006,.fb 6 true) ::
  (1005014,.bin .gtr 5 (yh 5) (LF (.k (.int .u8 1))) (yh 7)) ::
  (10007,.fb 7 false) ::
  (1005018,.bin .gtr 3 (yh 3) (LF (.k (.int .i64 0))) (yh 8)) ::
  (10008,.fb 8 true) ::
  (1005021,.bin .eql 5 (yh 5) (LF (.k (.int .u8 0))) (yh 9)) ::
  (10009,.fb 9 false) ::
  (1005026,.bin .and 5 (yh 5) (LF (.k (.int .u8 127))) (yh 10)) ::
  (1005027,.op (.cv 5 72) [yh 10] [] (yh 5001)) ::
  (1005029,.bin .mul 3 (LF (.k (.int .i64 7))) (yh 3) (yh 11)) ::
  (1005030,.bin .shl 72 (yh 5001) (yh 11) (yh 5002)) ::
  (1005031,.bin .or 72 (yh 5000) (yh 5002) (yh 5003)) ::
  (1005034,.bin .lss 5 (yh 5) (LF (.k (.int .u8 128))) (yh 12)) ::
  (10012,.fb 12 true) ::
  (1005041,.bin .add 3 (yh 3) (LF (.k (.int .i64 1))) (yh 13)) ::
  (1005042,.op (.sc 9 true false false) [yh 0,yh 13] [] (yh 14)) ::
  (1005047,.bin .shr 72 (yh 5003) (LF (.k (.int .u64 1))) (yh 5004)) ::
  (1005048,.op (.cv 72 3) [yh 5004] [] (yh 15)) ::
  (1005050,.bin .and 72 (yh 5003) (LF (.k (.int .u64 1))) (yh 5005)) ::
  (1005051,.op (.cv 72 3) [yh 5005] [] (yh 16)) ::
  (1005052,.un .neg (yh 16) (yh 17)) ::
  (1005053,.bin .xor 3 (yh 15) (yh 17) (yh 18)) ::
  []:List (Nat×Ent))) (H:=.no) 5000 (zipA.imp ⟨z_c yy,z_c yy,z_c yy,z_c yy,z_c yy,z_c yy,z_c yy,z_c yy,z_c yy,z_c yy,z_c yy,z_b ⟨yy,yy,trivial⟩,trivial⟩) (zf ⟨zb,zb,zb,zb,zb,zb,zb,zb,zb,zb,zb,zb,zb,zb,zb,zb,zb,zb,zb,trivial⟩ trivial ⟨⟨rfl,zh⟩,⟨rfl,zh⟩,⟨rfl,zh⟩,⟨rfl,zh⟩,⟨rfl,zh⟩,⟨rfl,zh⟩,trivial⟩) ⟨e_bin (za rfl) (za rfl) (za rfl) (r_cmp (congrArg some e501)),
  e_fbv h502,
  e_op2 (za rfl) (za rfl) (za rfl) (r_ix (by kernel_rfl) s505 s506),
  e_bin (za rfl) zd (za rfl) (r_cmp (congrArg some e507)),
  e_fbv h508,
  e_bin (za rfl) zd (za rfl) (r_cmp (congrArg some e509)),
  e_fbv h510,
  e_bin (za rfl) zd (za rfl) (r_cmp (congrArg some e511)),
  e_fbv s512,
  e_bin (za rfl) zd (za rfl) (r_cmp (congrArg some e513)),
  e_fbv h514,
  e_bin (za rfl) zd (za rfl) (zL (congrArg some e515)),
  e_op1 (za rfl) (za rfl) (fun W=>by rw [← e516];exact r_cvi (by kernel_rfl) (by kernel_rfl) W),
  e_bin zd (za rfl) (za rfl) (r_ar (congrArg some e517)),
  e_bin (za rfl) (za rfl) (za rfl) (fun W X Y=>by rw [← e519];exact r_shl s518 W X Y),
  e_bin (za rfl) (za rfl) (za rfl) (zL (congrArg some e520)),
  e_bin (za rfl) zd (za rfl) (r_cmp (congrArg some e521)),
  e_fbv h522,
  e_bin (za rfl) zd (za rfl) (r_ar (congrArg some e523)),
  e_op2 (za rfl) (za rfl) (za rfl) (fun W=>by rw [← e526];exact ze1 (by kernel_rfl) s525 s527 W),
  e_bin (za rfl) zd (za rfl) (fun W X Y=>by rw [← e528];exact r_shr (by decide) W X Y),
  e_op1 (za rfl) (za rfl) (fun W=>by rw [← e529];exact r_cvi (by kernel_rfl) (by kernel_rfl) W),
  e_bin (za rfl) zd (za rfl) (zL (congrArg some e530)),
  e_op1 (za rfl) (za rfl) (fun W=>by rw [← e531];exact r_cvi (by kernel_rfl) (by kernel_rfl) W),
  e_un (za rfl) (za rfl) (fun W=>by rw [← e532];exact r_neg W),
  e_bin (za rfl) (za rfl) (za rfl) (zL (congrArg some e533)),
  trivial⟩ mixed hR trivial (fun _ _ _ hs=>by cases hs) (by kernel_rfl:zz (KN w0) Tryz.prog _ .no ⟨ntOf Tryz.prog 36,[0],[]⟩ (lp Tryz.prog 36 0) 5000 zC .r [.sl 0 (.o (.c (.p 0 0))),.sl 2 (yh 18),.sl 6 (.o (.c (.p 0 0))),.sl 7 (.o (.c (.k (.bool false)))),.sl 8 (.o (.c (.p 0 0))),.sl 9 (.o (.c (.p 0 0))),.sl 10 (.o (.c (.p 0 0))),.sl 11 (yh 0),.sl 12 (yh 1),.sl 13 (yh 2),.bx 0 62 [.h 14,.k (.bool false)]]=true) rfl (zipA.imp ⟨z_c yy,z_c (fun β v W h=>(zc u3 β v W).2 (by rw [← q0];exact h)),z_c yy,z_c yy,z_c yy,z_c yy,z_c yy,z_c (fun β v W h=>(zc u0 β v W).2 h),z_c (fun β v W h=>(zc u1 β v W).2 h),z_c (fun β v W h=>(zc u2 β v W).2 h),z_b ⟨fun β v W h=>(zc u4 β v W).2 (by rw [← q1];exact h),yy,trivial⟩,trivial⟩)
theorem zoO {w0:World} (l:(List UInt8)) (v1:Int) (v2:Int) (code:Int) (i:Int) (v501:Bool) (n503:Nat) (b504:UInt8) (v507:Bool) (v509:Bool) (v511:Bool) (v513:Bool) (v515:Int) (v516:Int) (v517:Int) (v519:Int) (v520:Int) (v521:Bool) (v523:Int) (e501:(decide (i<v2))=v501) (e507:((i == (9:Int)))=v507) (e509:(decide ((b504.toNat:Int) > (1:Int)))=v509) (e511:(decide (i > (0:Int)))=v511) (e513:(((b504.toNat:Int) == (0:Int)))=v513) (e515:(IntKind.u8.wrap (BitVec.ofInt IntKind.u8.bits (b504.toNat:Int) &&& BitVec.ofInt IntKind.u8.bits (127:Int)).toNat)=v515) (e516:(IntKind.u64.wrap v515)=v516) (e517:(IntKind.i64.wrap ((7:Int)*i))=v517) (e519:(IntKind.u64.wrap (v516*2 ^ min (v517:Int).toNat IntKind.u64.bits))=v519) (e520:(IntKind.u64.wrap (BitVec.ofInt IntKind.u64.bits code ||| BitVec.ofInt IntKind.u64.bits v519).toNat)=v520) (e521:(decide ((b504.toNat:Int)<(128:Int)))=v521) (e523:(IntKind.i64.wrap (i+(1:Int)))=v523) (h502:v501=true) (s505:i=(n503:Int)) (s506:(l:List UInt8)[n503]?=some b504) (h508:v507=true) (h510:v509=false) (s512:v511=true) (h514:v513=false) (s518:0≤v517) (h522:v521=false) (code':Int) (i':Int) (q0:(v520)=code') (q1:(v523)=i') (R:Frm) (hR:R.pm=⟨ntOf Tryz.prog 36,[0],[]⟩):Goes (KN w0) Tryz.prog R (lp Tryz.prog 36 0) (FL [pS l,pI v1,pI v2,pI i] [] [(5000,pV (.int .u64 code))]) zC .n (FL [pS l,pI v1,pI v2,pI i'] [] [(5000,pV (.int .u64 code'))]) zC:=
 goes (x:=.n) (y:=.n) (Fb:=FL [pS l,pI v1,pI v2,pI i,pB v501,pV (.int .u8 (b504.toNat:Int)),pB v507,pB v509,pB v511,pB v513,pV (.int .u8 v515),pI v517,pB v521,pI v523] [] [(5000,pV (.int .u64 code)),(5001,pV (.int .u64 v516)),(5002,pV (.int .u64 v519)),(5003,pV (.int .u64 v520))]) (stb:=zC) (tl:=[.sl 0 (.o (.c (.p 0 0))),.sl 3 (yh 5003),.sl 6 (.o (.c (.p 0 0))),.sl 7 (.o (.c (.k (.bool false)))),.sl 8 (.o (.c (.p 0 0))),.sl 9 (.o (.c (.p 0 0))),.sl 10 (.o (.c (.p 0 0))),.sl 11 (yh 0),.sl 12 (yh 1),.sl 13 (yh 2),.sl 14 (yh 13),.bx 0 62 [.h 0,.k (.bool false)]]) (C:=((1005000,.bin .lss 3 (yh 3) (yh 2) (yh 4)) ::
  (10004,.fb 4 true) ::
  (1005008,.op (.ix 9) [yh 0,yh 3] [] (yh 5)) ::
  (1005011,.bin .eql 3 (yh 3) (LF (.k (.int .i64 9))) (yh 6)) ::
  (10006,.fb 6 true) ::
  (1005014,.bin .gtr 5 (yh 5) (LF (.k (.int .u8 1))) (yh 7)) ::
  (10007,.fb 7 false) ::
  (1005018,.bin .gtr 3 (yh 3) (LF (.k (.int .i64 0))) (yh 8)) ::
  (10008,.fb 8 true) ::
  (1005021,.bin .eql 5 (yh 5) (LF (.k (.int .u8 0))) (yh 9)) ::
  (10009,.fb 9 false) ::
  (1005026,.bin .and 5 (yh 5) (LF (.k (.int .u8 127))) (yh 10)) ::
  (1005027,.op (.cv 5 72) [yh 10] [] (yh 5001)) ::
  (1005029,.bin .mul 3 (LF (.k (.int .i64 7))) (yh 3) (yh 11)) ::
  (1005030,.bin .shl 72 (yh 5001) (yh 11) (yh 5002)) ::
  (1005031,.bin .or 72 (yh 5000) (yh 5002) (yh 5003)) ::
  (1005034,.bin .lss 5 (yh 5) (LF (.k (.int .u8 128))) (yh 12)) ::
  (10012,.fb 12 false) ::
  (1005035,.bin .add 3 (yh 3) (LF (.k (.int .i64 1))) (yh 13)) ::
  []:List (Nat×Ent))) (H:=.no) 5000 (zipA.imp ⟨z_c yy,z_c yy,z_c yy,z_c yy,z_c yy,z_c yy,z_c yy,z_c yy,z_c yy,z_c yy,z_c yy,z_b ⟨yy,yy,trivial⟩,trivial⟩) (zf ⟨zb,zb,zb,zb,zb,zb,zb,zb,zb,zb,zb,zb,zb,zb,trivial⟩ trivial ⟨⟨rfl,zh⟩,⟨rfl,zh⟩,⟨rfl,zh⟩,⟨rfl,zh⟩,trivial⟩) ⟨e_bin (za rfl) (za rfl) (za rfl) (r_cmp (congrArg some e501)),
  e_fbv h502,
  e_op2 (za rfl) (za rfl) (za rfl) (r_ix (by kernel_rfl) s505 s506),
  e_bin (za rfl) zd (za rfl) (r_cmp (congrArg some e507)),
  e_fbv h508,
  e_bin (za rfl) zd (za rfl) (r_cmp (congrArg some e509)),
  e_fbv h510,
  e_bin (za rfl) zd (za rfl) (r_cmp (congrArg some e511)),
  e_fbv s512,
  e_bin (za rfl) zd (za rfl) (r_cmp (congrArg some e513)),
  e_fbv h514,
  e_bin (za rfl) zd (za rfl) (zL (congrArg some e515)),
  e_op1 (za rfl) (za rfl) (fun W=>by rw [← e516];exact r_cvi (by kernel_rfl) (by kernel_rfl) W),
  e_bin zd (za rfl) (za rfl) (r_ar (congrArg some e517)),
  e_bin (za rfl) (za rfl) (za rfl) (fun W X Y=>by rw [← e519];exact r_shl s518 W X Y),
  e_bin (za rfl) (za rfl) (za rfl) (zL (congrArg some e520)),
  e_bin (za rfl) zd (za rfl) (r_cmp (congrArg some e521)),
  e_fbv h522,
  e_bin (za rfl) zd (za rfl) (r_ar (congrArg some e523)),
  trivial⟩ mixed hR trivial (fun _ _ _ hs=>by cases hs) (by kernel_rfl:zz (KN w0) Tryz.prog _ .no ⟨ntOf Tryz.prog 36,[0],[]⟩ (lp Tryz.prog 36 0) 5000 zC .n [.sl 0 (.o (.c (.p 0 0))),.sl 3 (yh 5003),.sl 6 (.o (.c (.p 0 0))),.sl 7 (.o (.c (.k (.bool false)))),.sl 8 (.o (.c (.p 0 0))),.sl 9 (.o (.c (.p 0 0))),.sl 10 (.o (.c (.p 0 0))),.sl 11 (yh 0),.sl 12 (yh 1),.sl 13 (yh 2),.sl 14 (yh 13),.bx 0 62 [.h 0,.k (.bool false)]]=true) rfl (zipA.imp ⟨z_c yy,z_c (fun β v W h=>(zc rfl β v W).2 (by rw [← q0];exact h)),z_c yy,z_c yy,z_c yy,z_c yy,z_c yy,z_c yy,z_c yy,z_c yy,z_c (fun β v W h=>(zc rfl β v W).2 (by rw [← q1];exact h)),z_b ⟨yy,yy,trivial⟩,trivial⟩)
theorem zoQ {w0:World} (l:(List UInt8)) (v1:Int) (v2:Int) (code:Int) (i:Int) (v501:Bool) (n503:Nat) (b504:UInt8) (v507:Bool) (v509:Bool) (v511:Bool) (v513:Int) (v514:Int) (v515:Int) (v517:Int) (v518:Int) (v519:Bool) (v521:Int) (n522:Nat) (v524:(List UInt8)) (v526:Int) (v527:Int) (v528:Int) (v529:Int) (v530:Int) (v531:Int) (e501:(decide (i<v2))=v501) (e507:((i == (9:Int)))=v507) (e509:(decide (i > (0:Int)))=v509) (e511:(((b504.toNat:Int) == (0:Int)))=v511) (e513:(IntKind.u8.wrap (BitVec.ofInt IntKind.u8.bits (b504.toNat:Int) &&& BitVec.ofInt IntKind.u8.bits (127:Int)).toNat)=v513) (e514:(IntKind.u64.wrap v513)=v514) (e515:(IntKind.i64.wrap ((7:Int)*i))=v515) (e517:(IntKind.u64.wrap (v514*2 ^ min (v515:Int).toNat IntKind.u64.bits))=v517) (e518:(IntKind.u64.wrap (BitVec.ofInt IntKind.u64.bits code ||| BitVec.ofInt IntKind.u64.bits v517).toNat)=v518) (e519:(decide ((b504.toNat:Int)<(128:Int)))=v519) (e521:(IntKind.i64.wrap (i+(1:Int)))=v521) (e524:((l:List UInt8).drop n522)=v524) (e526:((v518:Int).fdiv (2 ^ min ((1:Int):Int).toNat IntKind.u64.bits))=v526) (e527:(IntKind.i64.wrap v526)=v527) (e528:(IntKind.u64.wrap (BitVec.ofInt IntKind.u64.bits v518 &&& BitVec.ofInt IntKind.u64.bits (1:Int)).toNat)=v528) (e529:(IntKind.i64.wrap v528)=v529) (e530:(IntKind.i64.wrap (0 - v529))=v530) (e531:(IntKind.i64.wrap (BitVec.ofInt IntKind.i64.bits v527 ^^^ BitVec.ofInt IntKind.i64.bits v530).toNat)=v531) (h502:v501=true) (s505:i=(n503:Int)) (s506:(l:List UInt8)[n503]?=some b504) (h508:v507=false) (h510:v509=true) (h512:v511=false) (s516:0≤v515) (h520:v519=true) (s523:v521=(n522:Int)) (s525:n522≤(l:List UInt8).length) (o:Int) (l2:(List UInt8)) (F:Fact) (u0:F.c 0=pS l) (u1:F.c 1=pI v1) (u2:F.c 2=pI v2) (u3:F.c 3=pI o) (u4:F.c 4=pS l2) (q0:(v531)=o) (q1:(v524)=l2) (R:Frm) (hR:R.pm=⟨ntOf Tryz.prog 36,[0],[]⟩):Goes (KN w0) Tryz.prog R (lp Tryz.prog 36 0) (FL [pS l,pI v1,pI v2,pI i] [] [(5000,pV (.int .u64 code))]) zC .r F wrA_S.out:=
 goes (x:=.r) (y:=.r) (Fb:=FL [pS l,pI v1,pI v2,pI i,pB v501,pV (.int .u8 (b504.toNat:Int)),pB v507,pB v509,pB v511,pV (.int .u8 v513),pI v515,pB v519,pI v521,pS v524,pI v527,pI v529,pI v530,pI v531] [] [(5000,pV (.int .u64 code)),(5001,pV (.int .u64 v514)),(5002,pV (.int .u64 v517)),(5003,pV (.int .u64 v518)),(5004,pV (.int .u64 v526)),(5005,pV (.int .u64 v528))]) (stb:=zC) (tl:=[.sl 0 (.o (.c (.p 0 0))),.sl 2 (yh 17),.sl 6 (.o (.c (.p 0 0))),.sl 7 (.o (.c (.k (.bool false)))),.sl 8 (.o (.c (.p 0 0))),.sl 9 (.o (.c (.p 0 0))),.sl 10 (.o (.c (.p 0 0))),.sl 11 (yh 0),.sl 12 (yh 1),.sl 13 (yh 2),.bx 0 62 [.h 13,.k (.bool false)]]) (C:=((1005000,.bin .lss 3 (yh 3) (yh 2) (yh 4)) ::
  (10004,.fb 4 true) ::
  (1005008,.op (.ix 9) [yh 0,yh 3] [] (yh 5)) ::
  (1005011,.bin .eql 3 (yh 3) (LF (.k (.int .i64 9))) (yh 6)) ::
  (10006,.fb 6 false) ::
  (1005018,.bin .gtr 3 (yh 3) (LF (.k (.int .i64 0))) (yh 7)) ::
  (10007,.fb 7 true) ::
  (1005021,.bin .eql 5 (yh 5) (LF (.k (.int .u8 0))) (yh 8)) ::
  (10008,.fb 8 false) ::
  (1005026,.bin .and 5 (yh 5) (LF (.k (.int .u8 127))) (yh 9)) ::
  (1005027,.op (.cv 5 72) [yh 9] [] (yh 5001)) ::
  (1005029,.bin .mul 3 (LF (.k (.int .i64 7))) (yh 3) (yh 10)) ::
  (1005030,.bin .shl 72 (yh 5001) (yh 10) (yh 5002)) ::
  (1005031,.bin .or 72 (yh 5000) (yh 5002) (yh 5003)) ::
  (1005034,.bin .lss 5 (yh 5) (LF (.k (.int .u8 128))) (yh 11)) ::
  (10011,.fb 11 true) ::
  (1005041,.bin .add 3 (yh 3) (LF (.k (.int .i64 1))) (yh 12)) ::
  (1005042,.op (.sc 9 true false false) [yh 0,yh 12] [] (yh 13)) ::
  (1005047,.bin .shr 72 (yh 5003) (LF (.k (.int .u64 1))) (yh 5004)) ::
  (1005048,.op (.cv 72 3) [yh 5004] [] (yh 14)) ::
  (1005050,.bin .and 72 (yh 5003) (LF (.k (.int .u64 1))) (yh 5005)) ::
  (1005051,.op (.cv 72 3) [yh 5005] [] (yh 15)) ::
  (1005052,.un .neg (yh 15) (yh 16)) ::
  (1005053,.bin .xor 3 (yh 14) (yh 16) (yh 17)) ::
  []:List (Nat×Ent))) (H:=.no) 5000 (zipA.imp ⟨z_c yy,z_c yy,z_c yy,z_c yy,z_c yy,z_c yy,z_c yy,z_c yy,z_c yy,z_c yy,z_c yy,z_b ⟨yy,yy,trivial⟩,trivial⟩) (zf ⟨zb,zb,zb,zb,zb,zb,zb,zb,zb,zb,zb,zb,zb,zb,zb,zb,zb,zb,trivial⟩ trivial ⟨⟨rfl,zh⟩,⟨rfl,zh⟩,⟨rfl,zh⟩,⟨rfl,zh⟩,⟨rfl,zh⟩,⟨rfl,zh⟩,trivial⟩) ⟨e_bin (za rfl) (za rfl) (za rfl) (r_cmp (congrArg some e501)),
  e_fbv h502,
  e_op2 (za rfl) (za rfl) (za rfl) (r_ix (by kernel_rfl) s505 s506),
  e_bin (za rfl) zd (za rfl) (r_cmp (congrArg some e507)),
  e_fbv h508,
  e_bin (za rfl) zd (za rfl) (r_cmp (congrArg some e509)),
  e_fbv h510,
  e_bin (za rfl) zd (za rfl) (r_cmp (congrArg some e511)),
  e_fbv h512,
  e_bin (za rfl) zd (za rfl) (zL (congrArg some e513)),
  e_op1 (za rfl) (za rfl) (fun W=>by rw [← e514];exact r_cvi (by kernel_rfl) (by kernel_rfl) W),
  e_bin zd (za rfl) (za rfl) (r_ar (congrArg some e515)),
  e_bin (za rfl) (za rfl) (za rfl) (fun W X Y=>by rw [← e517];exact r_shl s516 W X Y),
  e_bin (za rfl) (za rfl) (za rfl) (zL (congrArg some e518)),
  e_bin (za rfl) zd (za rfl) (r_cmp (congrArg some e519)),
  e_fbv h520,
  e_bin (za rfl) zd (za rfl) (r_ar (congrArg some e521)),
  e_op2 (za rfl) (za rfl) (za rfl) (fun W=>by rw [← e524];exact ze1 (by kernel_rfl) s523 s525 W),
  e_bin (za rfl) zd (za rfl) (fun W X Y=>by rw [← e526];exact r_shr (by decide) W X Y),
  e_op1 (za rfl) (za rfl) (fun W=>by rw [← e527];exact r_cvi (by kernel_rfl) (by kernel_rfl) W),
  e_bin (za rfl) zd (za rfl) (zL (congrArg some e528)),
  e_op1 (za rfl) (za rfl) (fun W=>by rw [← e529];exact r_cvi (by kernel_rfl) (by kernel_rfl) W),
  e_un (za rfl) (za rfl) (fun W=>by rw [← e530];exact r_neg W),
  e_bin (za rfl) (za rfl) (za rfl) (zL (congrArg some e531)),
  trivial⟩ mixed hR trivial (fun _ _ _ hs=>by cases hs) (by kernel_rfl:zz (KN w0) Tryz.prog _ .no ⟨ntOf Tryz.prog 36,[0],[]⟩ (lp Tryz.prog 36 0) 5000 zC .r [.sl 0 (.o (.c (.p 0 0))),.sl 2 (yh 17),.sl 6 (.o (.c (.p 0 0))),.sl 7 (.o (.c (.k (.bool false)))),.sl 8 (.o (.c (.p 0 0))),.sl 9 (.o (.c (.p 0 0))),.sl 10 (.o (.c (.p 0 0))),.sl 11 (yh 0),.sl 12 (yh 1),.sl 13 (yh 2),.bx 0 62 [.h 13,.k (.bool false)]]=true) rfl (zipA.imp ⟨z_c yy,z_c (fun β v W h=>(zc u3 β v W).2 (by rw [← q0];exact h)),z_c yy,z_c yy,z_c yy,z_c yy,z_c yy,z_c (fun β v W h=>(zc u0 β v W).2 h),z_c (fun β v W h=>(zc u1 β v W).2 h),z_c (fun β v W h=>(zc u2 β v W).2 h),z_b ⟨fun β v W h=>(zc u4 β v W).2 (by rw [← q1];exact h),yy,trivial⟩,trivial⟩)
theorem zwQ {w0:World} (l:(List UInt8)) (v1:Int) (v2:Int) (code:Int) (i:Int) (v501:Bool) (n503:Nat) (b504:UInt8) (v507:Bool) (v509:Bool) (v511:Bool) (v513:Int) (v514:Int) (v515:Int) (v517:Int) (v518:Int) (v519:Bool) (v521:Int) (e501:(decide (i<v2))=v501) (e507:((i == (9:Int)))=v507) (e509:(decide (i > (0:Int)))=v509) (e511:(((b504.toNat:Int) == (0:Int)))=v511) (e513:(IntKind.u8.wrap (BitVec.ofInt IntKind.u8.bits (b504.toNat:Int) &&& BitVec.ofInt IntKind.u8.bits (127:Int)).toNat)=v513) (e514:(IntKind.u64.wrap v513)=v514) (e515:(IntKind.i64.wrap ((7:Int)*i))=v515) (e517:(IntKind.u64.wrap (v514*2 ^ min (v515:Int).toNat IntKind.u64.bits))=v517) (e518:(IntKind.u64.wrap (BitVec.ofInt IntKind.u64.bits code ||| BitVec.ofInt IntKind.u64.bits v517).toNat)=v518) (e519:(decide ((b504.toNat:Int)<(128:Int)))=v519) (e521:(IntKind.i64.wrap (i+(1:Int)))=v521) (h502:v501=true) (s505:i=(n503:Int)) (s506:(l:List UInt8)[n503]?=some b504) (h508:v507=false) (h510:v509=true) (h512:v511=false) (s516:0≤v515) (h520:v519=false) (code':Int) (i':Int) (q0:(v518)=code') (q1:(v521)=i') (R:Frm) (hR:R.pm=⟨ntOf Tryz.prog 36,[0],[]⟩):Goes (KN w0) Tryz.prog R (lp Tryz.prog 36 0) (FL [pS l,pI v1,pI v2,pI i] [] [(5000,pV (.int .u64 code))]) zC .n (FL [pS l,pI v1,pI v2,pI i'] [] [(5000,pV (.int .u64 code'))]) zC:=
 goes (x:=.n) (y:=.n) (Fb:=FL [pS l,pI v1,pI v2,pI i,pB v501,pV (.int .u8 (b504.toNat:Int)),pB v507,pB v509,pB v511,pV (.int .u8 v513),pI v515,pB v519,pI v521] [] [(5000,pV (.int .u64 code)),(5001,pV (.int .u64 v514)),(5002,pV (.int .u64 v517)),(5003,pV (.int .u64 v518))]) (stb:=zC) (tl:=[.sl 0 (.o (.c (.p 0 0))),.sl 3 (yh 5003),.sl 6 (.o (.c (.p 0 0))),.sl 7 (.o (.c (.k (.bool false)))),.sl 8 (.o (.c (.p 0 0))),.sl 9 (.o (.c (.p 0 0))),.sl 10 (.o (.c (.p 0 0))),.sl 11 (yh 0),.sl 12 (yh 1),.sl 13 (yh 2),.sl 14 (yh 12),.bx 0 62 [.h 0,.k (.bool false)]]) (C:=((1005000,.bin .lss 3 (yh 3) (yh 2) (yh 4)) ::
  (10004,.fb 4 true) ::
  (1005008,.op (.ix 9) [yh 0,yh 3] [] (yh 5)) ::
  (1005011,.bin .eql 3 (yh 3) (LF (.k (.int .i64 9))) (yh 6)) ::
  (10006,.fb 6 false) ::
  (1005018,.bin .gtr 3 (yh 3) (LF (.k (.int .i64 0))) (yh 7)) ::
  (10007,.fb 7 true) ::
  (1005021,.bin .eql 5 (yh 5) (LF (.k (.int .u8 0))) (yh 8)) ::
  (10008,.fb 8 false) ::
  (1005026,.bin .and 5 (yh 5) (LF (.k (.int .u8 127))) (yh 9)) ::
  (1005027,.op (.cv 5 72) [yh 9] [] (yh 5001)) ::
  (1005029,.bin .mul 3 (LF (.k (.int .i64 7))) (yh 3) (yh 10)) ::
  (1005030,.bin .shl 72 (yh 5001) (yh 10) (yh 5002)) ::
  (1005031,.bin .or 72 (yh 5000) (yh 5002) (yh 5003)) ::
  (1005034,.bin .lss 5 (yh 5) (LF (.k (.int .u8 128))) (yh 11)) ::
  (10011,.fb 11 false) ::
  (1005035,.bin .add 3 (yh 3) (LF (.k (.int .i64 1))) (yh 12)) ::
  []:List (Nat×Ent))) (H:=.no) 5000 (zipA.imp ⟨z_c yy,z_c yy,z_c yy,z_c yy,z_c yy,z_c yy,z_c yy,z_c yy,z_c yy,z_c yy,z_c yy,z_b ⟨yy,yy,trivial⟩,trivial⟩) (zf ⟨zb,zb,zb,zb,zb,zb,zb,zb,zb,zb,zb,zb,zb,trivial⟩ trivial ⟨⟨rfl,zh⟩,⟨rfl,zh⟩,⟨rfl,zh⟩,⟨rfl,zh⟩,trivial⟩) ⟨e_bin (za rfl) (za rfl) (za rfl) (r_cmp (congrArg some e501)),
  e_fbv h502,
  e_op2 (za rfl) (za rfl) (za rfl) (r_ix (by kernel_rfl) s505 s506),
  e_bin (za rfl) zd (za rfl) (r_cmp (congrArg some e507)),
  e_fbv h508,
  e_bin (za rfl) zd (za rfl) (r_cmp (congrArg some e509)),
  e_fbv h510,
  e_bin (za rfl) zd (za rfl) (r_cmp (congrArg some e511)),
  e_fbv h512,
  e_bin (za rfl) zd (za rfl) (zL (congrArg some e513)),
  e_op1 (za rfl) (za rfl) (fun W=>by rw [← e514];exact r_cvi (by kernel_rfl) (by kernel_rfl) W),
  e_bin zd (za rfl) (za rfl) (r_ar (congrArg some e515)),
  e_bin (za rfl) (za rfl) (za rfl) (fun W X Y=>by rw [← e517];exact r_shl s516 W X Y),
  e_bin (za rfl) (za rfl) (za rfl) (zL (congrArg some e518)),
  e_bin (za rfl) zd (za rfl) (r_cmp (congrArg some e519)),
  e_fbv h520,
  e_bin (za rfl) zd (za rfl) (r_ar (congrArg some e521)),
  trivial⟩ mixed hR trivial (fun _ _ _ hs=>by cases hs) (by kernel_rfl:zz (KN w0) Tryz.prog _ .no ⟨ntOf Tryz.prog 36,[0],[]⟩ (lp Tryz.prog 36 0) 5000 zC .n [.sl 0 (.o (.c (.p 0 0))),.sl 3 (yh 5003),.sl 6 (.o (.c (.p 0 0))),.sl 7 (.o (.c (.k (.bool false)))),.sl 8 (.o (.c (.p 0 0))),.sl 9 (.o (.c (.p 0 0))),.sl 10 (.o (.c (.p 0 0))),.sl 11 (yh 0),.sl 12 (yh 1),.sl 13 (yh 2),.sl 14 (yh 12),.bx 0 62 [.h 0,.k (.bool false)]]=true) rfl (zipA.imp ⟨z_c yy,z_c (fun β v W h=>(zc rfl β v W).2 (by rw [← q0];exact h)),z_c yy,z_c yy,z_c yy,z_c yy,z_c yy,z_c yy,z_c yy,z_c yy,z_c (fun β v W h=>(zc rfl β v W).2 (by rw [← q1];exact h)),z_b ⟨yy,yy,trivial⟩,trivial⟩)
theorem zoR {w0:World} (l:(List UInt8)) (v1:Int) (v2:Int) (code:Int) (i:Int) (v501:Bool) (n503:Nat) (b504:UInt8) (v507:Bool) (v509:Bool) (v511:Int) (v512:Int) (v513:Int) (v515:Int) (v516:Int) (v517:Bool) (v519:Int) (n520:Nat) (v522:(List UInt8)) (v524:Int) (v525:Int) (v526:Int) (v527:Int) (v528:Int) (v529:Int) (e501:(decide (i<v2))=v501) (e507:((i == (9:Int)))=v507) (e509:(decide (i > (0:Int)))=v509) (e511:(IntKind.u8.wrap (BitVec.ofInt IntKind.u8.bits (b504.toNat:Int) &&& BitVec.ofInt IntKind.u8.bits (127:Int)).toNat)=v511) (e512:(IntKind.u64.wrap v511)=v512) (e513:(IntKind.i64.wrap ((7:Int)*i))=v513) (e515:(IntKind.u64.wrap (v512*2 ^ min (v513:Int).toNat IntKind.u64.bits))=v515) (e516:(IntKind.u64.wrap (BitVec.ofInt IntKind.u64.bits code ||| BitVec.ofInt IntKind.u64.bits v515).toNat)=v516) (e517:(decide ((b504.toNat:Int)<(128:Int)))=v517) (e519:(IntKind.i64.wrap (i+(1:Int)))=v519) (e522:((l:List UInt8).drop n520)=v522) (e524:((v516:Int).fdiv (2 ^ min ((1:Int):Int).toNat IntKind.u64.bits))=v524) (e525:(IntKind.i64.wrap v524)=v525) (e526:(IntKind.u64.wrap (BitVec.ofInt IntKind.u64.bits v516 &&& BitVec.ofInt IntKind.u64.bits (1:Int)).toNat)=v526) (e527:(IntKind.i64.wrap v526)=v527) (e528:(IntKind.i64.wrap (0 - v527))=v528) (e529:(IntKind.i64.wrap (BitVec.ofInt IntKind.i64.bits v525 ^^^ BitVec.ofInt IntKind.i64.bits v528).toNat)=v529) (h502:v501=true) (s505:i=(n503:Int)) (s506:(l:List UInt8)[n503]?=some b504) (h508:v507=false) (h510:v509=false) (s514:0≤v513) (h518:v517=true) (s521:v519=(n520:Int)) (s523:n520≤(l:List UInt8).length) (o:Int) (l2:(List UInt8)) (F:Fact) (u0:F.c 0=pS l) (u1:F.c 1=pI v1) (u2:F.c 2=pI v2) (u3:F.c 3=pI o) (u4:F.c 4=pS l2) (q0:(v529)=o) (q1:(v522)=l2) (R:Frm) (hR:R.pm=⟨ntOf Tryz.prog 36,[0],[]⟩):Goes (KN w0) Tryz.prog R (lp Tryz.prog 36 0) (FL [pS l,pI v1,pI v2,pI i] [] [(5000,pV (.int .u64 code))]) zC .r F wrA_S.out:=
 goes (x:=.r) (y:=.r) (Fb:=FL [pS l,pI v1,pI v2,pI i,pB v501,pV (.int .u8 (b504.toNat:Int)),pB v507,pB v509,pV (.int .u8 v511),pI v513,pB v517,pI v519,pS v522,pI v525,pI v527,pI v528,pI v529] [] [(5000,pV (.int .u64 code)),(5001,pV (.int .u64 v512)),(5002,pV (.int .u64 v515)),(5003,pV (.int .u64 v516)),(5004,pV (.int .u64 v524)),(5005,pV (.int .u64 v526))]) (stb:=zC) (tl:=[.sl 0 (.o (.c (.p 0 0))),.sl 2 (yh 16),.sl 6 (.o (.c (.p 0 0))),.sl 7 (.o (.c (.k (.bool false)))),.sl 8 (.o (.c (.p 0 0))),.sl 9 (.o (.c (.p 0 0))),.sl 10 (.o (.c (.p 0 0))),.sl 11 (yh 0),.sl 12 (yh 1),.sl 13 (yh 2),.bx 0 62 [.h 12,.k (.bool false)]]) (C:=((1005000,.bin .lss 3 (yh 3) (yh 2) (yh 4)) ::
  (10004,.fb 4 true) ::
  (1005008,.op (.ix 9) [yh 0,yh 3] [] (yh 5)) ::
  (1005011,.bin .eql 3 (yh 3) (LF (.k (.int .i64 9))) (yh 6)) ::
  (10006,.fb 6 false) ::
  (1005018,.bin .gtr 3 (yh 3) (LF (.k (.int .i64 0))) (yh 7)) ::
  (10007,.fb 7 false) ::
  (1005026,.bin .and 5 (yh 5) (LF (.k (.int .u8 127))) (yh 8)) ::
  (1005027,.op (.cv 5 72) [yh 8] [] (yh 5001)) ::
  (1005029,.bin .mul 3 (LF (.k (.int .i64 7))) (yh 3) (yh 9)) ::
  (1005030,.bin .shl 72 (yh 5001) (yh 9) (yh 5002)) ::
  (1005031,.bin .or 72 (yh 5000) (yh 5002) (yh 5003)) ::
  (1005034,.bin .lss 5 (yh 5) (LF (.k (.int .u8 128))) (yh 10)) ::
  (10010,.fb 10 true) ::
  (1005041,.bin .add 3 (yh 3) (LF (.k (.int .i64 1))) (yh 11)) ::
  (1005042,.op (.sc 9 true false false) [yh 0,yh 11] [] (yh 12)) ::
  (1005047,.bin .shr 72 (yh 5003) (LF (.k (.int .u64 1))) (yh 5004)) ::
  (1005048,.op (.cv 72 3) [yh 5004] [] (yh 13)) ::
  (1005050,.bin .and 72 (yh 5003) (LF (.k (.int .u64 1))) (yh 5005)) ::
  (1005051,.op (.cv 72 3) [yh 5005] [] (yh 14)) ::
  (1005052,.un .neg (yh 14) (yh 15)) ::
  (1005053,.bin .xor 3 (yh 13) (yh 15) (yh 16)) ::
  []:List (Nat×Ent))) (H:=.no) 5000 (zipA.imp ⟨z_c yy,z_c yy,z_c yy,z_c yy,z_c yy,z_c yy,z_c yy,z_c yy,z_c yy,z_c yy,z_c yy,z_b ⟨yy,yy,trivial⟩,trivial⟩) (zf ⟨zb,zb,zb,zb,zb,zb,zb,zb,zb,zb,zb,zb,zb,zb,zb,zb,zb,trivial⟩ trivial ⟨⟨rfl,zh⟩,⟨rfl,zh⟩,⟨rfl,zh⟩,⟨rfl,zh⟩,⟨rfl,zh⟩,⟨rfl,zh⟩,trivial⟩) ⟨e_bin (za rfl) (za rfl) (za rfl) (r_cmp (congrArg some e501)),
  e_fbv h502,
  e_op2 (za rfl) (za rfl) (za rfl) (r_ix (by kernel_rfl) s505 s506),
  e_bin (za rfl) zd (za rfl) (r_cmp (congrArg some e507)),
  e_fbv h508,
  e_bin (za rfl) zd (za rfl) (r_cmp (congrArg some e509)),
  e_fbv h510,
  e_bin (za rfl) zd (za rfl) (zL (congrArg some e511)),
  e_op1 (za rfl) (za rfl) (fun W=>by rw [← e512];exact r_cvi (by kernel_rfl) (by kernel_rfl) W),
  e_bin zd (za rfl) (za rfl) (r_ar (congrArg some e513)),
  e_bin (za rfl) (za rfl) (za rfl) (fun W X Y=>by rw [← e515];exact r_shl s514 W X Y),
  e_bin (za rfl) (za rfl) (za rfl) (zL (congrArg some e516)),
  e_bin (za rfl) zd (za rfl) (r_cmp (congrArg some e517)),
  e_fbv h518,
  e_bin (za rfl) zd (za rfl) (r_ar (congrArg some e519)),
  e_op2 (za rfl) (za rfl) (za rfl) (fun W=>by rw [← e522];exact ze1 (by kernel_rfl) s521 s523 W),
  e_bin (za rfl) zd (za rfl) (fun W X Y=>by rw [← e524];exact r_shr (by decide) W X Y),
  e_op1 (za rfl) (za rfl) (fun W=>by rw [← e525];exact r_cvi (by kernel_rfl) (by kernel_rfl) W),
  e_bin (za rfl) zd (za rfl) (zL (congrArg some e526)),
  e_op1 (za rfl) (za rfl) (fun W=>by rw [← e527];exact r_cvi (by kernel_rfl) (by kernel_rfl) W),
  e_un (za rfl) (za rfl) (fun W=>by rw [← e528];exact r_neg W),
  e_bin (za rfl) (za rfl) (za rfl) (zL (congrArg some e529)),
  trivial⟩ mixed hR trivial (fun _ _ _ hs=>by cases hs) (by kernel_rfl:zz (KN w0) Tryz.prog _ .no ⟨ntOf Tryz.prog 36,[0],[]⟩ (lp Tryz.prog 36 0) 5000 zC .r [.sl 0 (.o (.c (.p 0 0))),.sl 2 (yh 16),.sl 6 (.o (.c (.p 0 0))),.sl 7 (.o (.c (.k (.bool false)))),.sl 8 (.o (.c (.p 0 0))),.sl 9 (.o (.c (.p 0 0))),.sl 10 (.o (.c (.p 0 0))),.sl 11 (yh 0),.sl 12 (yh 1),.sl 13 (yh 2),.bx 0 62 [.h 12,.k (.bool false)]]=true) rfl (zipA.imp ⟨z_c yy,z_c (fun β v W h=>(zc u3 β v W).2 (by rw [← q0];exact h)),z_c yy,z_c yy,z_c yy,z_c yy,z_c yy,z_c (fun β v W h=>(zc u0 β v W).2 h),z_c (fun β v W h=>(zc u1 β v W).2 h),z_c (fun β v W h=>(zc u2 β v W).2 h),z_b ⟨fun β v W h=>(zc u4 β v W).2 (by rw [← q1];exact h),yy,trivial⟩,trivial⟩)
theorem zoS {w0:World} (l:(List UInt8)) (v1:Int) (v2:Int) (code:Int) (i:Int) (v501:Bool) (n503:Nat) (b504:UInt8) (v507:Bool) (v509:Bool) (v511:Int) (v512:Int) (v513:Int) (v515:Int) (v516:Int) (v517:Bool) (v519:Int) (e501:(decide (i<v2))=v501) (e507:((i == (9:Int)))=v507) (e509:(decide (i > (0:Int)))=v509) (e511:(IntKind.u8.wrap (BitVec.ofInt IntKind.u8.bits (b504.toNat:Int) &&& BitVec.ofInt IntKind.u8.bits (127:Int)).toNat)=v511) (e512:(IntKind.u64.wrap v511)=v512) (e513:(IntKind.i64.wrap ((7:Int)*i))=v513) (e515:(IntKind.u64.wrap (v512*2 ^ min (v513:Int).toNat IntKind.u64.bits))=v515) (e516:(IntKind.u64.wrap (BitVec.ofInt IntKind.u64.bits code ||| BitVec.ofInt IntKind.u64.bits v515).toNat)=v516) (e517:(decide ((b504.toNat:Int)<(128:Int)))=v517) (e519:(IntKind.i64.wrap (i+(1:Int)))=v519) (h502:v501=true) (s505:i=(n503:Int)) (s506:(l:List UInt8)[n503]?=some b504) (h508:v507=false) (h510:v509=false) (s514:0≤v513) (h518:v517=false) (code':Int) (i':Int) (q0:(v516)=code') (q1:(v519)=i') (R:Frm) (hR:R.pm=⟨ntOf Tryz.prog 36,[0],[]⟩):Goes (KN w0) Tryz.prog R (lp Tryz.prog 36 0) (FL [pS l,pI v1,pI v2,pI i] [] [(5000,pV (.int .u64 code))]) zC .n (FL [pS l,pI v1,pI v2,pI i'] [] [(5000,pV (.int .u64 code'))]) zC:=
 goes (x:=.n) (y:=.n) (Fb:=FL [pS l,pI v1,pI v2,pI i,pB v501,pV (.int .u8 (b504.toNat:Int)),pB v507,pB v509,pV (.int .u8 v511),pI v513,pB v517,pI v519] [] [(5000,pV (.int .u64 code)),(5001,pV (.int .u64 v512)),(5002,pV (.int .u64 v515)),(5003,pV (.int .u64 v516))]) (stb:=zC) (tl:=[.sl 0 (.o (.c (.p 0 0))),.sl 3 (yh 5003),.sl 6 (.o (.c (.p 0 0))),.sl 7 (.o (.c (.k (.bool false)))),.sl 8 (.o (.c (.p 0 0))),.sl 9 (.o (.c (.p 0 0))),.sl 10 (.o (.c (.p 0 0))),.sl 11 (yh 0),.sl 12 (yh 1),.sl 13 (yh 2),.sl 14 (yh 11),.bx 0 62 [.h 0,.k (.bool false)]]) (C:=((1005000,.bin .lss 3 (yh 3) (yh 2) (yh 4)) ::
  (10004,.fb 4 true) ::
  (1005008,.op (.ix 9) [yh 0,yh 3] [] (yh 5)) ::
  (1005011,.bin .eql 3 (yh 3) (LF (.k (.int .i64 9))) (yh 6)) ::
  (10006,.fb 6 false) ::
  (1005018,.bin .gtr 3 (yh 3) (LF (.k (.int .i64 0))) (yh 7)) ::
  (10007,.fb 7 false) ::
  (1005026,.bin .and 5 (yh 5) (LF (.k (.int .u8 127))) (yh 8)) ::
  (1005027,.op (.cv 5 72) [yh 8] [] (yh 5001)) ::
  (1005029,.bin .mul 3 (LF (.k (.int .i64 7))) (yh 3) (yh 9)) ::
  (1005030,.bin .shl 72 (yh 5001) (yh 9) (yh 5002)) ::
  (1005031,.bin .or 72 (yh 5000) (yh 5002) (yh 5003)) ::
  (1005034,.bin .lss 5 (yh 5) (LF (.k (.int .u8 128))) (yh 10)) ::
  (10010,.fb 10 false) ::
  (1005035,.bin .add 3 (yh 3) (LF (.k (.int .i64 1))) (yh 11)) ::
  []:List (Nat×Ent))) (H:=.no) 5000 (zipA.imp ⟨z_c yy,z_c yy,z_c yy,z_c yy,z_c yy,z_c yy,z_c yy,z_c yy,z_c yy,z_c yy,z_c yy,z_b ⟨yy,yy,trivial⟩,trivial⟩) (zf ⟨zb,zb,zb,zb,zb,zb,zb,zb,zb,zb,zb,zb,trivial⟩ trivial ⟨⟨rfl,zh⟩,⟨rfl,zh⟩,⟨rfl,zh⟩,⟨rfl,zh⟩,trivial⟩) ⟨e_bin (za rfl) (za rfl) (za rfl) (r_cmp (congrArg some e501)),
  e_fbv h502,
  e_op2 (za rfl) (za rfl) (za rfl) (r_ix (by kernel_rfl) s505 s506),
  e_bin (za rfl) zd (za rfl) (r_cmp (congrArg some e507)),
  e_fbv h508,
  e_bin (za rfl) zd (za rfl) (r_cmp (congrArg some e509)),
  e_fbv h510,
  e_bin (za rfl) zd (za rfl) (zL (congrArg some e511)),
  e_op1 (za rfl) (za rfl) (fun W=>by rw [← e512];exact r_cvi (by kernel_rfl) (by kernel_rfl) W),
  e_bin zd (za rfl) (za rfl) (r_ar (congrArg some e513)),
  e_bin (za rfl) (za rfl) (za rfl) (fun W X Y=>by rw [← e515];exact r_shl s514 W X Y),
  e_bin (za rfl) (za rfl) (za rfl) (zL (congrArg some e516)),
  e_bin (za rfl) zd (za rfl) (r_cmp (congrArg some e517)),
  e_fbv h518,
  e_bin (za rfl) zd (za rfl) (r_ar (congrArg some e519)),
  trivial⟩ mixed hR trivial (fun _ _ _ hs=>by cases hs) (by kernel_rfl:zz (KN w0) Tryz.prog _ .no ⟨ntOf Tryz.prog 36,[0],[]⟩ (lp Tryz.prog 36 0) 5000 zC .n [.sl 0 (.o (.c (.p 0 0))),.sl 3 (yh 5003),.sl 6 (.o (.c (.p 0 0))),.sl 7 (.o (.c (.k (.bool false)))),.sl 8 (.o (.c (.p 0 0))),.sl 9 (.o (.c (.p 0 0))),.sl 10 (.o (.c (.p 0 0))),.sl 11 (yh 0),.sl 12 (yh 1),.sl 13 (yh 2),.sl 14 (yh 11),.bx 0 62 [.h 0,.k (.bool false)]]=true) rfl (zipA.imp ⟨z_c yy,z_c (fun β v W h=>(zc rfl β v W).2 (by rw [← q0];exact h)),z_c yy,z_c yy,z_c yy,z_c yy,z_c yy,z_c yy,z_c yy,z_c yy,z_c (fun β v W h=>(zc rfl β v W).2 (by rw [← q1];exact h)),z_b ⟨yy,yy,trivial⟩,trivial⟩)
def wrA_X (l:(List UInt8)) (v1:Int) (v2:Int) (t:wrA_T) (o:Int) (l2:(List UInt8)):Prop:=(∃(v501:Bool),∃(n503:Nat),∃(b504:UInt8),∃(v507:Bool),∃(v509:Bool),∃(v511:Bool),∃(v513:Bool),∃(v515:Int),∃(v516:Int),∃(v517:Int),∃(v519:Int),∃(v520:Int),∃(v521:Bool),∃(v523:Int),∃(n524:Nat),∃(v526:(List UInt8)),∃(v528:Int),∃(v529:Int),∃(v530:Int),∃(v531:Int),∃(v532:Int),∃(v533:Int),((decide (t.i<v2))=v501)∧(((t.i == (9:Int)))=v507)∧((decide ((b504.toNat:Int) > (1:Int)))=v509)∧((decide (t.i > (0:Int)))=v511)∧((((b504.toNat:Int) == (0:Int)))=v513)∧((IntKind.u8.wrap (BitVec.ofInt IntKind.u8.bits (b504.toNat:Int) &&& BitVec.ofInt IntKind.u8.bits (127:Int)).toNat)=v515)∧((IntKind.u64.wrap v515)=v516)∧((IntKind.i64.wrap ((7:Int)*t.i))=v517)∧((IntKind.u64.wrap (v516*2 ^ min (v517:Int).toNat IntKind.u64.bits))=v519)∧((IntKind.u64.wrap (BitVec.ofInt IntKind.u64.bits t.code ||| BitVec.ofInt IntKind.u64.bits v519).toNat)=v520)∧((decide ((b504.toNat:Int)<(128:Int)))=v521)∧((IntKind.i64.wrap (t.i+(1:Int)))=v523)∧(((l:List UInt8).drop n524)=v526)∧(((v520:Int).fdiv (2 ^ min ((1:Int):Int).toNat IntKind.u64.bits))=v528)∧((IntKind.i64.wrap v528)=v529)∧((IntKind.u64.wrap (BitVec.ofInt IntKind.u64.bits v520 &&& BitVec.ofInt IntKind.u64.bits (1:Int)).toNat)=v530)∧((IntKind.i64.wrap v530)=v531)∧((IntKind.i64.wrap (0 - v531))=v532)∧((IntKind.i64.wrap (BitVec.ofInt IntKind.i64.bits v529 ^^^ BitVec.ofInt IntKind.i64.bits v532).toNat)=v533)∧(v501=true)∧(t.i=(n503:Int))∧((l:List UInt8)[n503]?=some b504)∧(v507=true)∧(v509=false)∧(v511=true)∧(v513=false)∧(0≤v517)∧(v521=true)∧(v523=(n524:Int))∧(n524≤(l:List UInt8).length)∧((v533)=o)∧((v526)=l2)∧True)∨(∃(v501:Bool),∃(n503:Nat),∃(b504:UInt8),∃(v507:Bool),∃(v509:Bool),∃(v511:Bool),∃(v513:Int),∃(v514:Int),∃(v515:Int),∃(v517:Int),∃(v518:Int),∃(v519:Bool),∃(v521:Int),∃(n522:Nat),∃(v524:(List UInt8)),∃(v526:Int),∃(v527:Int),∃(v528:Int),∃(v529:Int),∃(v530:Int),∃(v531:Int),((decide (t.i<v2))=v501)∧(((t.i == (9:Int)))=v507)∧((decide (t.i > (0:Int)))=v509)∧((((b504.toNat:Int) == (0:Int)))=v511)∧((IntKind.u8.wrap (BitVec.ofInt IntKind.u8.bits (b504.toNat:Int) &&& BitVec.ofInt IntKind.u8.bits (127:Int)).toNat)=v513)∧((IntKind.u64.wrap v513)=v514)∧((IntKind.i64.wrap ((7:Int)*t.i))=v515)∧((IntKind.u64.wrap (v514*2 ^ min (v515:Int).toNat IntKind.u64.bits))=v517)∧((IntKind.u64.wrap (BitVec.ofInt IntKind.u64.bits t.code ||| BitVec.ofInt IntKind.u64.bits v517).toNat)=v518)∧((decide ((b504.toNat:Int)<(128:Int)))=v519)∧((IntKind.i64.wrap (t.i+(1:Int)))=v521)∧(((l:List UInt8).drop n522)=v524)∧(((v518:Int).fdiv (2 ^ min ((1:Int):Int).toNat IntKind.u64.bits))=v526)∧((IntKind.i64.wrap v526)=v527)∧((IntKind.u64.wrap (BitVec.ofInt IntKind.u64.bits v518 &&& BitVec.ofInt IntKind.u64.bits (1:Int)).toNat)=v528)∧((IntKind.i64.wrap v528)=v529)∧((IntKind.i64.wrap (0 - v529))=v530)∧((IntKind.i64.wrap (BitVec.ofInt IntKind.i64.bits v527 ^^^ BitVec.ofInt IntKind.i64.bits v530).toNat)=v531)∧(v501=true)∧(t.i=(n503:Int))∧((l:List UInt8)[n503]?=some b504)∧(v507=false)∧(v509=true)∧(v511=false)∧(0≤v515)∧(v519=true)∧(v521=(n522:Int))∧(n522≤(l:List UInt8).length)∧((v531)=o)∧((v524)=l2)∧True)∨(∃(v501:Bool),∃(n503:Nat),∃(b504:UInt8),∃(v507:Bool),∃(v509:Bool),∃(v511:Int),∃(v512:Int),∃(v513:Int),∃(v515:Int),∃(v516:Int),∃(v517:Bool),∃(v519:Int),∃(n520:Nat),∃(v522:(List UInt8)),∃(v524:Int),∃(v525:Int),∃(v526:Int),∃(v527:Int),∃(v528:Int),∃(v529:Int),((decide (t.i<v2))=v501)∧(((t.i == (9:Int)))=v507)∧((decide (t.i > (0:Int)))=v509)∧((IntKind.u8.wrap (BitVec.ofInt IntKind.u8.bits (b504.toNat:Int) &&& BitVec.ofInt IntKind.u8.bits (127:Int)).toNat)=v511)∧((IntKind.u64.wrap v511)=v512)∧((IntKind.i64.wrap ((7:Int)*t.i))=v513)∧((IntKind.u64.wrap (v512*2 ^ min (v513:Int).toNat IntKind.u64.bits))=v515)∧((IntKind.u64.wrap (BitVec.ofInt IntKind.u64.bits t.code ||| BitVec.ofInt IntKind.u64.bits v515).toNat)=v516)∧((decide ((b504.toNat:Int)<(128:Int)))=v517)∧((IntKind.i64.wrap (t.i+(1:Int)))=v519)∧(((l:List UInt8).drop n520)=v522)∧(((v516:Int).fdiv (2 ^ min ((1:Int):Int).toNat IntKind.u64.bits))=v524)∧((IntKind.i64.wrap v524)=v525)∧((IntKind.u64.wrap (BitVec.ofInt IntKind.u64.bits v516 &&& BitVec.ofInt IntKind.u64.bits (1:Int)).toNat)=v526)∧((IntKind.i64.wrap v526)=v527)∧((IntKind.i64.wrap (0 - v527))=v528)∧((IntKind.i64.wrap (BitVec.ofInt IntKind.i64.bits v525 ^^^ BitVec.ofInt IntKind.i64.bits v528).toNat)=v529)∧(v501=true)∧(t.i=(n503:Int))∧((l:List UInt8)[n503]?=some b504)∧(v507=false)∧(v509=false)∧(0≤v513)∧(v517=true)∧(v519=(n520:Int))∧(n520≤(l:List UInt8).length)∧((v529)=o)∧((v522)=l2)∧True)
def wrA_N (l:(List UInt8)) (v1:Int) (v2:Int) (t t':wrA_T):Prop:=(∃(v501:Bool),∃(n503:Nat),∃(b504:UInt8),∃(v507:Bool),∃(v509:Bool),∃(v511:Bool),∃(v513:Bool),∃(v515:Int),∃(v516:Int),∃(v517:Int),∃(v519:Int),∃(v520:Int),∃(v521:Bool),∃(v523:Int),((decide (t.i<v2))=v501)∧(((t.i == (9:Int)))=v507)∧((decide ((b504.toNat:Int) > (1:Int)))=v509)∧((decide (t.i > (0:Int)))=v511)∧((((b504.toNat:Int) == (0:Int)))=v513)∧((IntKind.u8.wrap (BitVec.ofInt IntKind.u8.bits (b504.toNat:Int) &&& BitVec.ofInt IntKind.u8.bits (127:Int)).toNat)=v515)∧((IntKind.u64.wrap v515)=v516)∧((IntKind.i64.wrap ((7:Int)*t.i))=v517)∧((IntKind.u64.wrap (v516*2 ^ min (v517:Int).toNat IntKind.u64.bits))=v519)∧((IntKind.u64.wrap (BitVec.ofInt IntKind.u64.bits t.code ||| BitVec.ofInt IntKind.u64.bits v519).toNat)=v520)∧((decide ((b504.toNat:Int)<(128:Int)))=v521)∧((IntKind.i64.wrap (t.i+(1:Int)))=v523)∧(v501=true)∧(t.i=(n503:Int))∧((l:List UInt8)[n503]?=some b504)∧(v507=true)∧(v509=false)∧(v511=true)∧(v513=false)∧(0≤v517)∧(v521=false)∧((v520)=t'.code)∧((v523)=t'.i)∧True)∨(∃(v501:Bool),∃(n503:Nat),∃(b504:UInt8),∃(v507:Bool),∃(v509:Bool),∃(v511:Bool),∃(v513:Int),∃(v514:Int),∃(v515:Int),∃(v517:Int),∃(v518:Int),∃(v519:Bool),∃(v521:Int),((decide (t.i<v2))=v501)∧(((t.i == (9:Int)))=v507)∧((decide (t.i > (0:Int)))=v509)∧((((b504.toNat:Int) == (0:Int)))=v511)∧((IntKind.u8.wrap (BitVec.ofInt IntKind.u8.bits (b504.toNat:Int) &&& BitVec.ofInt IntKind.u8.bits (127:Int)).toNat)=v513)∧((IntKind.u64.wrap v513)=v514)∧((IntKind.i64.wrap ((7:Int)*t.i))=v515)∧((IntKind.u64.wrap (v514*2 ^ min (v515:Int).toNat IntKind.u64.bits))=v517)∧((IntKind.u64.wrap (BitVec.ofInt IntKind.u64.bits t.code ||| BitVec.ofInt IntKind.u64.bits v517).toNat)=v518)∧((decide ((b504.toNat:Int)<(128:Int)))=v519)∧((IntKind.i64.wrap (t.i+(1:Int)))=v521)∧(v501=true)∧(t.i=(n503:Int))∧((l:List UInt8)[n503]?=some b504)∧(v507=false)∧(v509=true)∧(v511=false)∧(0≤v515)∧(v519=false)∧((v518)=t'.code)∧((v521)=t'.i)∧True)∨(∃(v501:Bool),∃(n503:Nat),∃(b504:UInt8),∃(v507:Bool),∃(v509:Bool),∃(v511:Int),∃(v512:Int),∃(v513:Int),∃(v515:Int),∃(v516:Int),∃(v517:Bool),∃(v519:Int),((decide (t.i<v2))=v501)∧(((t.i == (9:Int)))=v507)∧((decide (t.i > (0:Int)))=v509)∧((IntKind.u8.wrap (BitVec.ofInt IntKind.u8.bits (b504.toNat:Int) &&& BitVec.ofInt IntKind.u8.bits (127:Int)).toNat)=v511)∧((IntKind.u64.wrap v511)=v512)∧((IntKind.i64.wrap ((7:Int)*t.i))=v513)∧((IntKind.u64.wrap (v512*2 ^ min (v513:Int).toNat IntKind.u64.bits))=v515)∧((IntKind.u64.wrap (BitVec.ofInt IntKind.u64.bits t.code ||| BitVec.ofInt IntKind.u64.bits v515).toNat)=v516)∧((decide ((b504.toNat:Int)<(128:Int)))=v517)∧((IntKind.i64.wrap (t.i+(1:Int)))=v519)∧(v501=true)∧(t.i=(n503:Int))∧((l:List UInt8)[n503]?=some b504)∧(v507=false)∧(v509=false)∧(0≤v513)∧(v517=false)∧((v516)=t'.code)∧((v519)=t'.i)∧True)
theorem zmd {w0:World} (l:(List UInt8)) (v1:Int) (v2:Int) (o:Int) (l2:(List UInt8)) {F:Fact} (u0:F.c 0=pS l) (u1:F.c 1=pI v1) (u2:F.c 2=pI v2) (u3:F.c 3=pI o) (u4:F.c 4=pS l2) (R:Frm) (hR:R.pm=⟨ntOf Tryz.prog 36,[0],[]⟩) (J:wrA_T→Prop) (m:wrA_T→Nat) (hJ:J { code:=(0:Int),i:=(0:Int) }) (rounds:∀t,J t→wrA_X l v1 v2 t o l2∨∃t',wrA_N l v1 v2 t t'∧m t'<m t∧J t'):zg (KN w0) Tryz.prog F R wrA_S (lp Tryz.prog 36 0):=by
 refine zP (T:=wrA_T) (fun t=>FL [pS l,pI v1,pI v2,pI t.i] [] [(5000,pV (.int .u64 t.code))]) J m { code:=(0:Int),i:=(0:Int) } zC hJ (zipA.imp ⟨z_c yy,z_c yy,z_c yy,z_c yy,z_c yy,z_c yy,z_c yy,z_c (fun β v W h=>(zc u0 β v W).1 h),z_c (fun β v W h=>(zc u1 β v W).1 h),z_c (fun β v W h=>(zc u2 β v W).1 h),z_c yy,z_b ⟨fun β v W h=>(zc u0 β v W).1 h,yy,trivial⟩,trivial⟩) rfl fun t ht=>?_
 rcases rounds t ht with hz_ | ⟨t',hz_,hm_,hj_⟩
 ·refine .inl ?_
  rcases hz_ with ⟨v501,n503,b504,v507,v509,v511,v513,v515,v516,v517,v519,v520,v521,v523,n524,v526,v528,v529,v530,v531,v532,v533,e501,e507,e509,e511,e513,e515,e516,e517,e519,e520,e521,e523,e526,e528,e529,e530,e531,e532,e533,h502,s505,s506,h508,h510,s512,h514,s518,h522,s525,s527,q0,q1,_⟩ | ⟨v501,n503,b504,v507,v509,v511,v513,v514,v515,v517,v518,v519,v521,n522,v524,v526,v527,v528,v529,v530,v531,e501,e507,e509,e511,e513,e514,e515,e517,e518,e519,e521,e524,e526,e527,e528,e529,e530,e531,h502,s505,s506,h508,h510,h512,s516,h520,s523,s525,q0,q1,_⟩ | ⟨v501,n503,b504,v507,v509,v511,v512,v513,v515,v516,v517,v519,n520,v522,v524,v525,v526,v527,v528,v529,e501,e507,e509,e511,e512,e513,e515,e516,e517,e519,e522,e524,e525,e526,e527,e528,e529,h502,s505,s506,h508,h510,s514,h518,s521,s523,q0,q1,_⟩
  ·exact zoN  l v1 v2  t.code t.i v501 n503 b504 v507 v509 v511 v513 v515 v516 v517 v519 v520 v521 v523 n524 v526 v528 v529 v530 v531 v532 v533 e501 e507 e509 e511 e513 e515 e516 e517 e519 e520 e521 e523 e526 e528 e529 e530 e531 e532 e533 h502 s505 s506 h508 h510 s512 h514 s518 h522 s525 s527 o l2 F u0 u1 u2 u3 u4 q0 q1 R hR
  ·exact zoQ  l v1 v2  t.code t.i v501 n503 b504 v507 v509 v511 v513 v514 v515 v517 v518 v519 v521 n522 v524 v526 v527 v528 v529 v530 v531 e501 e507 e509 e511 e513 e514 e515 e517 e518 e519 e521 e524 e526 e527 e528 e529 e530 e531 h502 s505 s506 h508 h510 h512 s516 h520 s523 s525 o l2 F u0 u1 u2 u3 u4 q0 q1 R hR
  ·exact zoR  l v1 v2  t.code t.i v501 n503 b504 v507 v509 v511 v512 v513 v515 v516 v517 v519 n520 v522 v524 v525 v526 v527 v528 v529 e501 e507 e509 e511 e512 e513 e515 e516 e517 e519 e522 e524 e525 e526 e527 e528 e529 h502 s505 s506 h508 h510 s514 h518 s521 s523 o l2 F u0 u1 u2 u3 u4 q0 q1 R hR
 ·refine .inr ⟨t',hm_,hj_,?_⟩
  rcases hz_ with ⟨v501,n503,b504,v507,v509,v511,v513,v515,v516,v517,v519,v520,v521,v523,e501,e507,e509,e511,e513,e515,e516,e517,e519,e520,e521,e523,h502,s505,s506,h508,h510,s512,h514,s518,h522,q0,q1,_⟩ | ⟨v501,n503,b504,v507,v509,v511,v513,v514,v515,v517,v518,v519,v521,e501,e507,e509,e511,e513,e514,e515,e517,e518,e519,e521,h502,s505,s506,h508,h510,h512,s516,h520,q0,q1,_⟩ | ⟨v501,n503,b504,v507,v509,v511,v512,v513,v515,v516,v517,v519,e501,e507,e509,e511,e512,e513,e515,e516,e517,e519,h502,s505,s506,h508,h510,s514,h518,q0,q1,_⟩
  ·exact zoO  l v1 v2  t.code t.i v501 n503 b504 v507 v509 v511 v513 v515 v516 v517 v519 v520 v521 v523 e501 e507 e509 e511 e513 e515 e516 e517 e519 e520 e521 e523 h502 s505 s506 h508 h510 s512 h514 s518 h522 t'.code t'.i q0 q1 R hR
  ·exact zwQ  l v1 v2  t.code t.i v501 n503 b504 v507 v509 v511 v513 v514 v515 v517 v518 v519 v521 e501 e507 e509 e511 e513 e514 e515 e517 e518 e519 e521 h502 s505 s506 h508 h510 h512 s516 h520 t'.code t'.i q0 q1 R hR
  ·exact zoS  l v1 v2  t.code t.i v501 n503 b504 v507 v509 v511 v512 v513 v515 v516 v517 v519 e501 e507 e509 e511 e512 e513 e515 e516 e517 e519 h502 s505 s506 h508 h510 s514 h518 t'.code t'.i q0 q1 R hR
theorem zoM {w0:World} (l:(List UInt8)) (v1:Int) (v2:Int) (o:Int) (l2:(List UInt8)) {F:Fact} (u0:F.c 0=pS l) (u1:F.c 1=pI v1) (u2:F.c 2=pI v2) (u3:F.c 3=pI o) (u4:F.c 4=pS l2) (R:Frm) (hR:R.pm=⟨ntOf Tryz.prog 36,[0],[]⟩) (h1:((l:List UInt8).length:Int)=v1) (h2:(if v1<(10:Int) then v1 else (10:Int))=v2) (hd:(decGo 0 l).isSome=true) (hO:decI l=some (o,l2)):zg (KN w0) Tryz.prog F R wrA_S (lp Tryz.prog 36 0):=by
 refine zmd  l v1 v2  o l2 u0 u1 u2 u3 u4 R hR (fun ⟨code,i⟩=>∃k c:Nat,i=(k:Int)∧code=(c:Int)∧RdJ l k c) (fun ⟨code,i⟩=>(10 - i).toNat) ⟨0,0,rfl,rfl,ze3 l⟩ fun t hJ=>?_
 obtain ⟨code,i⟩:=t
 dsimp only at hJ
 obtain ⟨k,c,hi,hc,hJ⟩:=hJ
 have hk9:=hJ.1
 obtain ⟨v501,e501⟩:∃v,(decide (i<v2))=v:=⟨_,rfl⟩
 cases h502:v501 with
 | true =>
  obtain ⟨n503,b504,s505,s506⟩:∃(n503:Nat) (b504:UInt8),i=(n503:Int)∧(l:List UInt8)[n503]?=some b504:=by (have dh502:=of_decide_eq_true (e501.trans h502);have hlt:k<l.length:=(by split at h2<;>omega);exact ⟨k,l[k],hi,List.getElem?_eq_getElem hlt⟩)
  obtain ⟨v507,e507⟩:∃v,((i == (9:Int)))=v:=⟨_,rfl⟩
  cases h508:v507 with
  | true =>
   obtain ⟨v509,e509⟩:∃v,(decide ((b504.toNat:Int) > (1:Int)))=v:=⟨_,rfl⟩
   cases h510:v509 with
   | true =>
    exfalso
    have dh502:=of_decide_eq_true (e501.trans h502);have dh508:=eq_of_beq (e507.trans h508);have dh510:=of_decide_eq_true (e509.trans h510)
    have hnk:n503=k:=(by omega)
    subst hnk
    have hb:=s506
    have hz:=zgP hJ hb (by unfold badB;omega)
    rw [hz] at hd
    cases hd
   | false =>
    obtain ⟨v511,e511⟩:∃v,(decide (i > (0:Int)))=v:=⟨_,rfl⟩
    have s512:v511=true:=by (have dh502:=of_decide_eq_true (e501.trans h502);have dh508:=eq_of_beq (e507.trans h508);have dh510:=of_decide_eq_false (e509.trans h510);rw [← e511];exact decide_eq_true (by omega))
    obtain ⟨v513,e513⟩:∃v,(((b504.toNat:Int) == (0:Int)))=v:=⟨_,rfl⟩
    cases h514:v513 with
    | true =>
     exfalso
     have dh502:=of_decide_eq_true (e501.trans h502);have dh508:=eq_of_beq (e507.trans h508);have dh510:=of_decide_eq_false (e509.trans h510);have dh514:=eq_of_beq (e513.trans h514)
     have hnk:n503=k:=(by omega)
     subst hnk
     have hb:=s506
     have hz:=zgP hJ hb (by unfold badB;omega)
     rw [hz] at hd
     cases hd
    | false =>
     obtain ⟨v515,e515⟩:∃v,(IntKind.u8.wrap (BitVec.ofInt IntKind.u8.bits (b504.toNat:Int) &&& BitVec.ofInt IntKind.u8.bits (127:Int)).toNat)=v:=⟨_,rfl⟩
     obtain ⟨v516,e516⟩:∃v,(IntKind.u64.wrap v515)=v:=⟨_,rfl⟩
     obtain ⟨v517,e517⟩:∃v,(IntKind.i64.wrap ((7:Int)*i))=v:=⟨_,rfl⟩
     have s518:0≤v517:=by (rw [← e517,hi,wri (by omega)];omega)
     obtain ⟨v519,e519⟩:∃v,(IntKind.u64.wrap (v516*2 ^ min (v517:Int).toNat IntKind.u64.bits))=v:=⟨_,rfl⟩
     obtain ⟨v520,e520⟩:∃v,(IntKind.u64.wrap (BitVec.ofInt IntKind.u64.bits code ||| BitVec.ofInt IntKind.u64.bits v519).toNat)=v:=⟨_,rfl⟩
     obtain ⟨v521,e521⟩:∃v,(decide ((b504.toNat:Int)<(128:Int)))=v:=⟨_,rfl⟩
     cases h522:v521 with
     | true =>
      obtain ⟨v523,e523⟩:∃v,(IntKind.i64.wrap (i+(1:Int)))=v:=⟨_,rfl⟩
      obtain ⟨n524,s525⟩:∃(n524:Nat),v523=(n524:Int):=by (refine ⟨k+1,?_⟩;rw [← e523,hi,wri (by omega)];omega)
      obtain ⟨v526,e526⟩:∃v,((l:List UInt8).drop n524)=v:=⟨_,rfl⟩
      have s527:n524≤(l:List UInt8).length:=by (have dh502:=of_decide_eq_true (e501.trans h502);have dh508:=eq_of_beq (e507.trans h508);have dh510:=of_decide_eq_false (e509.trans h510);have dh514:=ne_of_beq_false (e513.trans h514);have dh522:=of_decide_eq_true (e521.trans h522);have hlt:k<l.length:=(by split at h2<;>omega);have:=e523;rw [hi,wri (by omega)] at this;omega)
      obtain ⟨v528,e528⟩:∃v,((v520:Int).fdiv (2 ^ min ((1:Int):Int).toNat IntKind.u64.bits))=v:=⟨_,rfl⟩
      obtain ⟨v529,e529⟩:∃v,(IntKind.i64.wrap v528)=v:=⟨_,rfl⟩
      obtain ⟨v530,e530⟩:∃v,(IntKind.u64.wrap (BitVec.ofInt IntKind.u64.bits v520 &&& BitVec.ofInt IntKind.u64.bits (1:Int)).toNat)=v:=⟨_,rfl⟩
      obtain ⟨v531,e531⟩:∃v,(IntKind.i64.wrap v530)=v:=⟨_,rfl⟩
      obtain ⟨v532,e532⟩:∃v,(IntKind.i64.wrap (0 - v531))=v:=⟨_,rfl⟩
      obtain ⟨v533,e533⟩:∃v,(IntKind.i64.wrap (BitVec.ofInt IntKind.i64.bits v529 ^^^ BitVec.ofInt IntKind.i64.bits v532).toNat)=v:=⟨_,rfl⟩
      refine .inl (Or.inl (⟨v501,n503,b504,v507,v509,v511,v513,v515,v516,v517,v519,v520,v521,v523,n524,v526,v528,v529,v530,v531,v532,v533,e501,e507,e509,e511,e513,e515,e516,e517,e519,e520,e521,e523,e526,e528,e529,e530,e531,e532,e533,h502,s505,s506,h508,h510,s512,h514,s518,h522,s525,s527,?_,?_,trivial⟩))
      all_goals (have dh502:=of_decide_eq_true (e501.trans h502);have dh508:=eq_of_beq (e507.trans h508);have dh510:=of_decide_eq_false (e509.trans h510);have dh514:=ne_of_beq_false (e513.trans h514);have dh522:=of_decide_eq_true (e521.trans h522);have hnk:n503=k:=(by omega);subst hnk;have hb:=s506;have hnb:¬ badB n503 b504:=(by unfold badB;omega);have x1:v516=((b504.toNat%128:Nat):Int):=(by rw [← e516,← e515,and8,wu64];omega);have x2:v517=((7*n503:Nat):Int):=(by rw [← e517,hi,wri (by omega)];omega);have x3:v520=((c+2 ^ (7*n503)*(b504.toNat%128):Nat):Int):=(by rw [← e520,← e519,x1,x2,hc];exact rd_or hJ hnb);have hs:b504.toNat<128:=(by omega);have hdn:=qW hJ hb hnb hs;unfold decI at hO;rw [hdn] at hO;simp only [Option.map_some,Option.some.injEq,Prod.mk.injEq] at hO;obtain ⟨h3,h4⟩:=hO)
      ·rw [← h3,← zaV (zhp hdn)]
       rw [Nat.mod_eq_of_lt hs] at x3
       rw [← x3]
       rw [← e533,← e532,← e531,← e530,← e529,← e528]
       rfl
      ·rw [← h4,← e526,show n524=n503+1 by (have:=e523;rw [hi,wri (by omega)] at this;omega)]
     | false =>
      obtain ⟨v523,e523⟩:∃v,(IntKind.i64.wrap (i+(1:Int)))=v:=⟨_,rfl⟩
      refine .inr ⟨⟨v520,v523⟩,Or.inl (⟨v501,n503,b504,v507,v509,v511,v513,v515,v516,v517,v519,v520,v521,v523,e501,e507,e509,e511,e513,e515,e516,e517,e519,e520,e521,e523,h502,s505,s506,h508,h510,s512,h514,s518,h522,rfl,rfl,trivial⟩),?_,?_⟩
      all_goals (have dh502:=of_decide_eq_true (e501.trans h502);have dh508:=eq_of_beq (e507.trans h508);have dh510:=of_decide_eq_false (e509.trans h510);have dh514:=ne_of_beq_false (e513.trans h514);have dh522:=of_decide_eq_false (e521.trans h522);have hnk:n503=k:=(by omega);subst hnk;have hb:=s506;have hnb:¬ badB n503 b504:=(by unfold badB;omega);have x1:v516=((b504.toNat%128:Nat):Int):=(by rw [← e516,← e515,and8,wu64];omega);have x2:v517=((7*n503:Nat):Int):=(by rw [← e517,hi,wri (by omega)];omega);have x3:v520=((c+2 ^ (7*n503)*(b504.toNat%128):Nat):Int):=(by rw [← e520,← e519,x1,x2,hc];exact rd_or hJ hnb);have x4:v523=((n503+1:Nat):Int):=(by rw [← e523,hi,wri (by omega)];omega);have hbl:=b504.toNat_lt)
      ·show (10 - v523).toNat<(10 - i).toNat
       omega
      ·exact ⟨n503+1,_,x4,(by rw [x3,show b504.toNat%128=b504.toNat - 128 by omega]),qX hJ hb hnb (by omega)⟩
  | false =>
   obtain ⟨v509,e509⟩:∃v,(decide (i > (0:Int)))=v:=⟨_,rfl⟩
   cases h510:v509 with
   | true =>
    obtain ⟨v511,e511⟩:∃v,(((b504.toNat:Int) == (0:Int)))=v:=⟨_,rfl⟩
    cases h512:v511 with
    | true =>
     exfalso
     have dh502:=of_decide_eq_true (e501.trans h502);have dh508:=ne_of_beq_false (e507.trans h508);have dh510:=of_decide_eq_true (e509.trans h510);have dh512:=eq_of_beq (e511.trans h512)
     have hnk:n503=k:=(by omega)
     subst hnk
     have hb:=s506
     have hz:=zgP hJ hb (by unfold badB;omega)
     rw [hz] at hd
     cases hd
    | false =>
     obtain ⟨v513,e513⟩:∃v,(IntKind.u8.wrap (BitVec.ofInt IntKind.u8.bits (b504.toNat:Int) &&& BitVec.ofInt IntKind.u8.bits (127:Int)).toNat)=v:=⟨_,rfl⟩
     obtain ⟨v514,e514⟩:∃v,(IntKind.u64.wrap v513)=v:=⟨_,rfl⟩
     obtain ⟨v515,e515⟩:∃v,(IntKind.i64.wrap ((7:Int)*i))=v:=⟨_,rfl⟩
     have s516:0≤v515:=by (rw [← e515,hi,wri (by omega)];omega)
     obtain ⟨v517,e517⟩:∃v,(IntKind.u64.wrap (v514*2 ^ min (v515:Int).toNat IntKind.u64.bits))=v:=⟨_,rfl⟩
     obtain ⟨v518,e518⟩:∃v,(IntKind.u64.wrap (BitVec.ofInt IntKind.u64.bits code ||| BitVec.ofInt IntKind.u64.bits v517).toNat)=v:=⟨_,rfl⟩
     obtain ⟨v519,e519⟩:∃v,(decide ((b504.toNat:Int)<(128:Int)))=v:=⟨_,rfl⟩
     cases h520:v519 with
     | true =>
      obtain ⟨v521,e521⟩:∃v,(IntKind.i64.wrap (i+(1:Int)))=v:=⟨_,rfl⟩
      obtain ⟨n522,s523⟩:∃(n522:Nat),v521=(n522:Int):=by (refine ⟨k+1,?_⟩;rw [← e521,hi,wri (by omega)];omega)
      obtain ⟨v524,e524⟩:∃v,((l:List UInt8).drop n522)=v:=⟨_,rfl⟩
      have s525:n522≤(l:List UInt8).length:=by (have dh502:=of_decide_eq_true (e501.trans h502);have dh508:=ne_of_beq_false (e507.trans h508);have dh510:=of_decide_eq_true (e509.trans h510);have dh512:=ne_of_beq_false (e511.trans h512);have dh520:=of_decide_eq_true (e519.trans h520);have hlt:k<l.length:=(by split at h2<;>omega);have:=e521;rw [hi,wri (by omega)] at this;omega)
      obtain ⟨v526,e526⟩:∃v,((v518:Int).fdiv (2 ^ min ((1:Int):Int).toNat IntKind.u64.bits))=v:=⟨_,rfl⟩
      obtain ⟨v527,e527⟩:∃v,(IntKind.i64.wrap v526)=v:=⟨_,rfl⟩
      obtain ⟨v528,e528⟩:∃v,(IntKind.u64.wrap (BitVec.ofInt IntKind.u64.bits v518 &&& BitVec.ofInt IntKind.u64.bits (1:Int)).toNat)=v:=⟨_,rfl⟩
      obtain ⟨v529,e529⟩:∃v,(IntKind.i64.wrap v528)=v:=⟨_,rfl⟩
      obtain ⟨v530,e530⟩:∃v,(IntKind.i64.wrap (0 - v529))=v:=⟨_,rfl⟩
      obtain ⟨v531,e531⟩:∃v,(IntKind.i64.wrap (BitVec.ofInt IntKind.i64.bits v527 ^^^ BitVec.ofInt IntKind.i64.bits v530).toNat)=v:=⟨_,rfl⟩
      refine .inl (Or.inr (Or.inl (⟨v501,n503,b504,v507,v509,v511,v513,v514,v515,v517,v518,v519,v521,n522,v524,v526,v527,v528,v529,v530,v531,e501,e507,e509,e511,e513,e514,e515,e517,e518,e519,e521,e524,e526,e527,e528,e529,e530,e531,h502,s505,s506,h508,h510,h512,s516,h520,s523,s525,?_,?_,trivial⟩)))
      all_goals (have dh502:=of_decide_eq_true (e501.trans h502);have dh508:=ne_of_beq_false (e507.trans h508);have dh510:=of_decide_eq_true (e509.trans h510);have dh512:=ne_of_beq_false (e511.trans h512);have dh520:=of_decide_eq_true (e519.trans h520);have hnk:n503=k:=(by omega);subst hnk;have hb:=s506;have hnb:¬ badB n503 b504:=(by unfold badB;omega);have x1:v514=((b504.toNat%128:Nat):Int):=(by rw [← e514,← e513,and8,wu64];omega);have x2:v515=((7*n503:Nat):Int):=(by rw [← e515,hi,wri (by omega)];omega);have x3:v518=((c+2 ^ (7*n503)*(b504.toNat%128):Nat):Int):=(by rw [← e518,← e517,x1,x2,hc];exact rd_or hJ hnb);have hs:b504.toNat<128:=(by omega);have hdn:=qW hJ hb hnb hs;unfold decI at hO;rw [hdn] at hO;simp only [Option.map_some,Option.some.injEq,Prod.mk.injEq] at hO;obtain ⟨h3,h4⟩:=hO)
      ·rw [← h3,← zaV (zhp hdn)]
       rw [Nat.mod_eq_of_lt hs] at x3
       rw [← x3]
       rw [← e531,← e530,← e529,← e528,← e527,← e526]
       rfl
      ·rw [← h4,← e524,show n522=n503+1 by (have:=e521;rw [hi,wri (by omega)] at this;omega)]
     | false =>
      obtain ⟨v521,e521⟩:∃v,(IntKind.i64.wrap (i+(1:Int)))=v:=⟨_,rfl⟩
      refine .inr ⟨⟨v518,v521⟩,Or.inr (Or.inl (⟨v501,n503,b504,v507,v509,v511,v513,v514,v515,v517,v518,v519,v521,e501,e507,e509,e511,e513,e514,e515,e517,e518,e519,e521,h502,s505,s506,h508,h510,h512,s516,h520,rfl,rfl,trivial⟩)),?_,?_⟩
      all_goals (have dh502:=of_decide_eq_true (e501.trans h502);have dh508:=ne_of_beq_false (e507.trans h508);have dh510:=of_decide_eq_true (e509.trans h510);have dh512:=ne_of_beq_false (e511.trans h512);have dh520:=of_decide_eq_false (e519.trans h520);have hnk:n503=k:=(by omega);subst hnk;have hb:=s506;have hnb:¬ badB n503 b504:=(by unfold badB;omega);have x1:v514=((b504.toNat%128:Nat):Int):=(by rw [← e514,← e513,and8,wu64];omega);have x2:v515=((7*n503:Nat):Int):=(by rw [← e515,hi,wri (by omega)];omega);have x3:v518=((c+2 ^ (7*n503)*(b504.toNat%128):Nat):Int):=(by rw [← e518,← e517,x1,x2,hc];exact rd_or hJ hnb);have x4:v521=((n503+1:Nat):Int):=(by rw [← e521,hi,wri (by omega)];omega);have hbl:=b504.toNat_lt)
      ·show (10 - v521).toNat<(10 - i).toNat
       omega
      ·exact ⟨n503+1,_,x4,(by rw [x3,show b504.toNat%128=b504.toNat - 128 by omega]),qX hJ hb hnb (by omega)⟩
   | false =>
    obtain ⟨v511,e511⟩:∃v,(IntKind.u8.wrap (BitVec.ofInt IntKind.u8.bits (b504.toNat:Int) &&& BitVec.ofInt IntKind.u8.bits (127:Int)).toNat)=v:=⟨_,rfl⟩
    obtain ⟨v512,e512⟩:∃v,(IntKind.u64.wrap v511)=v:=⟨_,rfl⟩
    obtain ⟨v513,e513⟩:∃v,(IntKind.i64.wrap ((7:Int)*i))=v:=⟨_,rfl⟩
    have s514:0≤v513:=by (rw [← e513,hi,wri (by omega)];omega)
    obtain ⟨v515,e515⟩:∃v,(IntKind.u64.wrap (v512*2 ^ min (v513:Int).toNat IntKind.u64.bits))=v:=⟨_,rfl⟩
    obtain ⟨v516,e516⟩:∃v,(IntKind.u64.wrap (BitVec.ofInt IntKind.u64.bits code ||| BitVec.ofInt IntKind.u64.bits v515).toNat)=v:=⟨_,rfl⟩
    obtain ⟨v517,e517⟩:∃v,(decide ((b504.toNat:Int)<(128:Int)))=v:=⟨_,rfl⟩
    cases h518:v517 with
    | true =>
     obtain ⟨v519,e519⟩:∃v,(IntKind.i64.wrap (i+(1:Int)))=v:=⟨_,rfl⟩
     obtain ⟨n520,s521⟩:∃(n520:Nat),v519=(n520:Int):=by (refine ⟨k+1,?_⟩;rw [← e519,hi,wri (by omega)];omega)
     obtain ⟨v522,e522⟩:∃v,((l:List UInt8).drop n520)=v:=⟨_,rfl⟩
     have s523:n520≤(l:List UInt8).length:=by (have dh502:=of_decide_eq_true (e501.trans h502);have dh508:=ne_of_beq_false (e507.trans h508);have dh510:=of_decide_eq_false (e509.trans h510);have dh518:=of_decide_eq_true (e517.trans h518);have hlt:k<l.length:=(by split at h2<;>omega);have:=e519;rw [hi,wri (by omega)] at this;omega)
     obtain ⟨v524,e524⟩:∃v,((v516:Int).fdiv (2 ^ min ((1:Int):Int).toNat IntKind.u64.bits))=v:=⟨_,rfl⟩
     obtain ⟨v525,e525⟩:∃v,(IntKind.i64.wrap v524)=v:=⟨_,rfl⟩
     obtain ⟨v526,e526⟩:∃v,(IntKind.u64.wrap (BitVec.ofInt IntKind.u64.bits v516 &&& BitVec.ofInt IntKind.u64.bits (1:Int)).toNat)=v:=⟨_,rfl⟩
     obtain ⟨v527,e527⟩:∃v,(IntKind.i64.wrap v526)=v:=⟨_,rfl⟩
     obtain ⟨v528,e528⟩:∃v,(IntKind.i64.wrap (0 - v527))=v:=⟨_,rfl⟩
     obtain ⟨v529,e529⟩:∃v,(IntKind.i64.wrap (BitVec.ofInt IntKind.i64.bits v525 ^^^ BitVec.ofInt IntKind.i64.bits v528).toNat)=v:=⟨_,rfl⟩
     refine .inl (Or.inr (Or.inr (⟨v501,n503,b504,v507,v509,v511,v512,v513,v515,v516,v517,v519,n520,v522,v524,v525,v526,v527,v528,v529,e501,e507,e509,e511,e512,e513,e515,e516,e517,e519,e522,e524,e525,e526,e527,e528,e529,h502,s505,s506,h508,h510,s514,h518,s521,s523,?_,?_,trivial⟩)))
     all_goals (have dh502:=of_decide_eq_true (e501.trans h502);have dh508:=ne_of_beq_false (e507.trans h508);have dh510:=of_decide_eq_false (e509.trans h510);have dh518:=of_decide_eq_true (e517.trans h518);have hnk:n503=k:=(by omega);subst hnk;have hb:=s506;have hnb:¬ badB n503 b504:=(by unfold badB;omega);have x1:v512=((b504.toNat%128:Nat):Int):=(by rw [← e512,← e511,and8,wu64];omega);have x2:v513=((7*n503:Nat):Int):=(by rw [← e513,hi,wri (by omega)];omega);have x3:v516=((c+2 ^ (7*n503)*(b504.toNat%128):Nat):Int):=(by rw [← e516,← e515,x1,x2,hc];exact rd_or hJ hnb);have hs:b504.toNat<128:=(by omega);have hdn:=qW hJ hb hnb hs;unfold decI at hO;rw [hdn] at hO;simp only [Option.map_some,Option.some.injEq,Prod.mk.injEq] at hO;obtain ⟨h3,h4⟩:=hO)
     ·rw [← h3,← zaV (zhp hdn)]
      rw [Nat.mod_eq_of_lt hs] at x3
      rw [← x3]
      rw [← e529,← e528,← e527,← e526,← e525,← e524]
      rfl
     ·rw [← h4,← e522,show n520=n503+1 by (have:=e519;rw [hi,wri (by omega)] at this;omega)]
    | false =>
     obtain ⟨v519,e519⟩:∃v,(IntKind.i64.wrap (i+(1:Int)))=v:=⟨_,rfl⟩
     refine .inr ⟨⟨v516,v519⟩,Or.inr (Or.inr (⟨v501,n503,b504,v507,v509,v511,v512,v513,v515,v516,v517,v519,e501,e507,e509,e511,e512,e513,e515,e516,e517,e519,h502,s505,s506,h508,h510,s514,h518,rfl,rfl,trivial⟩)),?_,?_⟩
     all_goals (have dh502:=of_decide_eq_true (e501.trans h502);have dh508:=ne_of_beq_false (e507.trans h508);have dh510:=of_decide_eq_false (e509.trans h510);have dh518:=of_decide_eq_false (e517.trans h518);have hnk:n503=k:=(by omega);subst hnk;have hb:=s506;have hnb:¬ badB n503 b504:=(by unfold badB;omega);have x1:v512=((b504.toNat%128:Nat):Int):=(by rw [← e512,← e511,and8,wu64];omega);have x2:v513=((7*n503:Nat):Int):=(by rw [← e513,hi,wri (by omega)];omega);have x3:v516=((c+2 ^ (7*n503)*(b504.toNat%128):Nat):Int):=(by rw [← e516,← e515,x1,x2,hc];exact rd_or hJ hnb);have x4:v519=((n503+1:Nat):Int):=(by rw [← e519,hi,wri (by omega)];omega);have hbl:=b504.toNat_lt)
     ·show (10 - v519).toNat<(10 - i).toNat
      omega
     ·exact ⟨n503+1,_,x4,(by rw [x3,show b504.toNat%128=b504.toNat - 128 by omega]),qX hJ hb hnb (by omega)⟩
 | false =>
  exfalso
  have dh502:=of_decide_eq_false (e501.trans h502)
  have hz:=zno hJ (by split at h2<;>omega)
  rw [hz] at hd
  cases hd
def wrB_S:LoopS:=⟨5,[.sl 0 (.o (.c (.p 0 0))),.sl 3 (.o (.c (.k (.int .u64 0)))),.sl 6 (.o (.c (.p 0 0))),.sl 7 (.o (.c (.k (.bool false)))),.sl 8 (.o (.c (.p 0 0))),.sl 9 (.o (.c (.p 0 0))),.sl 10 (.o (.c (.p 0 0))),.sl 11 (yh 0),.sl 12 (yh 1),.sl 13 (yh 2),.sl 14 (.o (.c (.k (.int .i64 0)))),.bx 0 62 [.h 0,.k (.bool false)]],(.x 0),[.sl 0 (.o (.c (.p 0 0))),.sl 6 (.o (.c (.p 0 0))),.sl 7 (.o (.c (.k (.bool false)))),.sl 8 (.o (.c (.p 0 0))),.sl 9 (.o (.c (.p 0 0))),.sl 10 (.o (.c (.p 0 0))),.sl 11 (yh 0),.sl 12 (yh 1),.sl 13 (yh 2),.bx 0 62 [.h 0,.k (.bool false)]]⟩
theorem zoV {w0:World} (l:(List UInt8)) (v1:Int) (v2:Int) (code:Int) (i:Int) (v501:Bool) (n503:Nat) (b504:UInt8) (v507:Bool) (v509:Bool) (e501:(decide (i<v2))=v501) (e507:((i == (9:Int)))=v507) (e509:(decide ((b504.toNat:Int) > (1:Int)))=v509) (h502:v501=true) (s505:i=(n503:Int)) (s506:(l:List UInt8)[n503]?=some b504) (h508:v507=true) (h510:v509=true) (F:Fact) (u0:F.c 0=pS l) (u1:F.c 1=pI v1) (u2:F.c 2=pI v2) (R:Frm) (hR:R.pm=⟨ntOf Tryz.prog 36,[0],[]⟩):Goes (KN w0) Tryz.prog R (lp Tryz.prog 36 0) (FL [pS l,pI v1,pI v2,pI i] [] [(5000,pV (.int .u64 code))]) zC (.x 0) F wrB_S.out:=
 goes (x:=(.x 0)) (y:=(.x 0)) (Fb:=FL [pS l,pI v1,pI v2,pI i,pB v501,pV (.int .u8 (b504.toNat:Int)),pB v507,pB v509] [] [(5000,pV (.int .u64 code))]) (stb:=zC) (tl:=[.sl 0 (.o (.c (.p 0 0))),.sl 6 (.o (.c (.p 0 0))),.sl 7 (.o (.c (.k (.bool false)))),.sl 8 (.o (.c (.p 0 0))),.sl 9 (.o (.c (.p 0 0))),.sl 10 (.o (.c (.p 0 0))),.sl 11 (yh 0),.sl 12 (yh 1),.sl 13 (yh 2),.bx 0 62 [.h 0,.k (.bool false)]]) (C:=((1005000,.bin .lss 3 (yh 3) (yh 2) (yh 4)) ::
  (10004,.fb 4 true) ::
  (1005008,.op (.ix 9) [yh 0,yh 3] [] (yh 5)) ::
  (1005011,.bin .eql 3 (yh 3) (LF (.k (.int .i64 9))) (yh 6)) ::
  (10006,.fb 6 true) ::
  (1005014,.bin .gtr 5 (yh 5) (LF (.k (.int .u8 1))) (yh 7)) ::
  (10007,.fb 7 true) ::
  []:List (Nat×Ent))) (H:=.no) 5000 (zipA.imp ⟨z_c yy,z_c yy,z_c yy,z_c yy,z_c yy,z_c yy,z_c yy,z_c yy,z_c yy,z_c yy,z_c yy,z_b ⟨yy,yy,trivial⟩,trivial⟩) (zf ⟨zb,zb,zb,zb,zb,zb,zb,zb,trivial⟩ trivial ⟨⟨rfl,zh⟩,trivial⟩) ⟨e_bin (za rfl) (za rfl) (za rfl) (r_cmp (congrArg some e501)),
  e_fbv h502,
  e_op2 (za rfl) (za rfl) (za rfl) (r_ix (by kernel_rfl) s505 s506),
  e_bin (za rfl) zd (za rfl) (r_cmp (congrArg some e507)),
  e_fbv h508,
  e_bin (za rfl) zd (za rfl) (r_cmp (congrArg some e509)),
  e_fbv h510,
  trivial⟩ mixed hR trivial (fun _ _ _ hs=>by cases hs) (by kernel_rfl:zz (KN w0) Tryz.prog _ .no ⟨ntOf Tryz.prog 36,[0],[]⟩ (lp Tryz.prog 36 0) 5000 zC (.x 0) [.sl 0 (.o (.c (.p 0 0))),.sl 6 (.o (.c (.p 0 0))),.sl 7 (.o (.c (.k (.bool false)))),.sl 8 (.o (.c (.p 0 0))),.sl 9 (.o (.c (.p 0 0))),.sl 10 (.o (.c (.p 0 0))),.sl 11 (yh 0),.sl 12 (yh 1),.sl 13 (yh 2),.bx 0 62 [.h 0,.k (.bool false)]]=true) rfl (zipA.imp ⟨z_c yy,z_c yy,z_c yy,z_c yy,z_c yy,z_c yy,z_c (fun β v W h=>(zc u0 β v W).2 h),z_c (fun β v W h=>(zc u1 β v W).2 h),z_c (fun β v W h=>(zc u2 β v W).2 h),z_b ⟨fun β v W h=>(zc u0 β v W).2 h,yy,trivial⟩,trivial⟩)
theorem zoW {w0:World} (l:(List UInt8)) (v1:Int) (v2:Int) (code:Int) (i:Int) (v501:Bool) (n503:Nat) (b504:UInt8) (v507:Bool) (v509:Bool) (v511:Bool) (v513:Bool) (e501:(decide (i<v2))=v501) (e507:((i == (9:Int)))=v507) (e509:(decide ((b504.toNat:Int) > (1:Int)))=v509) (e511:(decide (i > (0:Int)))=v511) (e513:(((b504.toNat:Int) == (0:Int)))=v513) (h502:v501=true) (s505:i=(n503:Int)) (s506:(l:List UInt8)[n503]?=some b504) (h508:v507=true) (h510:v509=false) (s512:v511=true) (h514:v513=true) (F:Fact) (u0:F.c 0=pS l) (u1:F.c 1=pI v1) (u2:F.c 2=pI v2) (R:Frm) (hR:R.pm=⟨ntOf Tryz.prog 36,[0],[]⟩):Goes (KN w0) Tryz.prog R (lp Tryz.prog 36 0) (FL [pS l,pI v1,pI v2,pI i] [] [(5000,pV (.int .u64 code))]) zC (.x 0) F wrB_S.out:=
 goes (x:=(.x 0)) (y:=(.x 0)) (Fb:=FL [pS l,pI v1,pI v2,pI i,pB v501,pV (.int .u8 (b504.toNat:Int)),pB v507,pB v509,pB v511,pB v513] [] [(5000,pV (.int .u64 code))]) (stb:=zC) (tl:=[.sl 0 (.o (.c (.p 0 0))),.sl 6 (.o (.c (.p 0 0))),.sl 7 (.o (.c (.k (.bool false)))),.sl 8 (.o (.c (.p 0 0))),.sl 9 (.o (.c (.p 0 0))),.sl 10 (.o (.c (.p 0 0))),.sl 11 (yh 0),.sl 12 (yh 1),.sl 13 (yh 2),.bx 0 62 [.h 0,.k (.bool false)]]) (C:=((1005000,.bin .lss 3 (yh 3) (yh 2) (yh 4)) ::
  (10004,.fb 4 true) ::
  (1005008,.op (.ix 9) [yh 0,yh 3] [] (yh 5)) ::
  (1005011,.bin .eql 3 (yh 3) (LF (.k (.int .i64 9))) (yh 6)) ::
  (10006,.fb 6 true) ::
  (1005014,.bin .gtr 5 (yh 5) (LF (.k (.int .u8 1))) (yh 7)) ::
  (10007,.fb 7 false) ::
  (1005018,.bin .gtr 3 (yh 3) (LF (.k (.int .i64 0))) (yh 8)) ::
  (10008,.fb 8 true) ::
  (1005021,.bin .eql 5 (yh 5) (LF (.k (.int .u8 0))) (yh 9)) ::
  (10009,.fb 9 true) ::
  []:List (Nat×Ent))) (H:=.no) 5000 (zipA.imp ⟨z_c yy,z_c yy,z_c yy,z_c yy,z_c yy,z_c yy,z_c yy,z_c yy,z_c yy,z_c yy,z_c yy,z_b ⟨yy,yy,trivial⟩,trivial⟩) (zf ⟨zb,zb,zb,zb,zb,zb,zb,zb,zb,zb,trivial⟩ trivial ⟨⟨rfl,zh⟩,trivial⟩) ⟨e_bin (za rfl) (za rfl) (za rfl) (r_cmp (congrArg some e501)),
  e_fbv h502,
  e_op2 (za rfl) (za rfl) (za rfl) (r_ix (by kernel_rfl) s505 s506),
  e_bin (za rfl) zd (za rfl) (r_cmp (congrArg some e507)),
  e_fbv h508,
  e_bin (za rfl) zd (za rfl) (r_cmp (congrArg some e509)),
  e_fbv h510,
  e_bin (za rfl) zd (za rfl) (r_cmp (congrArg some e511)),
  e_fbv s512,
  e_bin (za rfl) zd (za rfl) (r_cmp (congrArg some e513)),
  e_fbv h514,
  trivial⟩ mixed hR trivial (fun _ _ _ hs=>by cases hs) (by kernel_rfl:zz (KN w0) Tryz.prog _ .no ⟨ntOf Tryz.prog 36,[0],[]⟩ (lp Tryz.prog 36 0) 5000 zC (.x 0) [.sl 0 (.o (.c (.p 0 0))),.sl 6 (.o (.c (.p 0 0))),.sl 7 (.o (.c (.k (.bool false)))),.sl 8 (.o (.c (.p 0 0))),.sl 9 (.o (.c (.p 0 0))),.sl 10 (.o (.c (.p 0 0))),.sl 11 (yh 0),.sl 12 (yh 1),.sl 13 (yh 2),.bx 0 62 [.h 0,.k (.bool false)]]=true) rfl (zipA.imp ⟨z_c yy,z_c yy,z_c yy,z_c yy,z_c yy,z_c yy,z_c (fun β v W h=>(zc u0 β v W).2 h),z_c (fun β v W h=>(zc u1 β v W).2 h),z_c (fun β v W h=>(zc u2 β v W).2 h),z_b ⟨fun β v W h=>(zc u0 β v W).2 h,yy,trivial⟩,trivial⟩)
theorem zwR {w0:World} (l:(List UInt8)) (v1:Int) (v2:Int) (code:Int) (i:Int) (v501:Bool) (n503:Nat) (b504:UInt8) (v507:Bool) (v509:Bool) (v511:Bool) (e501:(decide (i<v2))=v501) (e507:((i == (9:Int)))=v507) (e509:(decide (i > (0:Int)))=v509) (e511:(((b504.toNat:Int) == (0:Int)))=v511) (h502:v501=true) (s505:i=(n503:Int)) (s506:(l:List UInt8)[n503]?=some b504) (h508:v507=false) (h510:v509=true) (h512:v511=true) (F:Fact) (u0:F.c 0=pS l) (u1:F.c 1=pI v1) (u2:F.c 2=pI v2) (R:Frm) (hR:R.pm=⟨ntOf Tryz.prog 36,[0],[]⟩):Goes (KN w0) Tryz.prog R (lp Tryz.prog 36 0) (FL [pS l,pI v1,pI v2,pI i] [] [(5000,pV (.int .u64 code))]) zC (.x 0) F wrB_S.out:=
 goes (x:=(.x 0)) (y:=(.x 0)) (Fb:=FL [pS l,pI v1,pI v2,pI i,pB v501,pV (.int .u8 (b504.toNat:Int)),pB v507,pB v509,pB v511] [] [(5000,pV (.int .u64 code))]) (stb:=zC) (tl:=[.sl 0 (.o (.c (.p 0 0))),.sl 6 (.o (.c (.p 0 0))),.sl 7 (.o (.c (.k (.bool false)))),.sl 8 (.o (.c (.p 0 0))),.sl 9 (.o (.c (.p 0 0))),.sl 10 (.o (.c (.p 0 0))),.sl 11 (yh 0),.sl 12 (yh 1),.sl 13 (yh 2),.bx 0 62 [.h 0,.k (.bool false)]]) (C:=((1005000,.bin .lss 3 (yh 3) (yh 2) (yh 4)) ::
  (10004,.fb 4 true) ::
  (1005008,.op (.ix 9) [yh 0,yh 3] [] (yh 5)) ::
  (1005011,.bin .eql 3 (yh 3) (LF (.k (.int .i64 9))) (yh 6)) ::
  (10006,.fb 6 false) ::
  (1005018,.bin .gtr 3 (yh 3) (LF (.k (.int .i64 0))) (yh 7)) ::
  (10007,.fb 7 true) ::
  (1005021,.bin .eql 5 (yh 5) (LF (.k (.int .u8 0))) (yh 8)) ::
  (10008,.fb 8 true) ::
  []:List (Nat×Ent))) (H:=.no) 5000 (zipA.imp ⟨z_c yy,z_c yy,z_c yy,z_c yy,z_c yy,z_c yy,z_c yy,z_c yy,z_c yy,z_c yy,z_c yy,z_b ⟨yy,yy,trivial⟩,trivial⟩) (zf ⟨zb,zb,zb,zb,zb,zb,zb,zb,zb,trivial⟩ trivial ⟨⟨rfl,zh⟩,trivial⟩) ⟨e_bin (za rfl) (za rfl) (za rfl) (r_cmp (congrArg some e501)),
  e_fbv h502,
  e_op2 (za rfl) (za rfl) (za rfl) (r_ix (by kernel_rfl) s505 s506),
  e_bin (za rfl) zd (za rfl) (r_cmp (congrArg some e507)),
  e_fbv h508,
  e_bin (za rfl) zd (za rfl) (r_cmp (congrArg some e509)),
  e_fbv h510,
  e_bin (za rfl) zd (za rfl) (r_cmp (congrArg some e511)),
  e_fbv h512,
  trivial⟩ mixed hR trivial (fun _ _ _ hs=>by cases hs) (by kernel_rfl:zz (KN w0) Tryz.prog _ .no ⟨ntOf Tryz.prog 36,[0],[]⟩ (lp Tryz.prog 36 0) 5000 zC (.x 0) [.sl 0 (.o (.c (.p 0 0))),.sl 6 (.o (.c (.p 0 0))),.sl 7 (.o (.c (.k (.bool false)))),.sl 8 (.o (.c (.p 0 0))),.sl 9 (.o (.c (.p 0 0))),.sl 10 (.o (.c (.p 0 0))),.sl 11 (yh 0),.sl 12 (yh 1),.sl 13 (yh 2),.bx 0 62 [.h 0,.k (.bool false)]]=true) rfl (zipA.imp ⟨z_c yy,z_c yy,z_c yy,z_c yy,z_c yy,z_c yy,z_c (fun β v W h=>(zc u0 β v W).2 h),z_c (fun β v W h=>(zc u1 β v W).2 h),z_c (fun β v W h=>(zc u2 β v W).2 h),z_b ⟨fun β v W h=>(zc u0 β v W).2 h,yy,trivial⟩,trivial⟩)
theorem zwS {w0:World} (l:(List UInt8)) (v1:Int) (v2:Int) (code:Int) (i:Int) (v501:Bool) (e501:(decide (i<v2))=v501) (h502:v501=false) (F:Fact) (u0:F.c 0=pS l) (u1:F.c 1=pI v1) (u2:F.c 2=pI v2) (R:Frm) (hR:R.pm=⟨ntOf Tryz.prog 36,[0],[]⟩):Goes (KN w0) Tryz.prog R (lp Tryz.prog 36 0) (FL [pS l,pI v1,pI v2,pI i] [] [(5000,pV (.int .u64 code))]) zC (.x 0) F wrB_S.out:=
 goes (x:=(.x 0)) (y:=(.x 0)) (Fb:=FL [pS l,pI v1,pI v2,pI i,pB v501] [] [(5000,pV (.int .u64 code))]) (stb:=zC) (tl:=[.sl 0 (.o (.c (.p 0 0))),.sl 6 (.o (.c (.p 0 0))),.sl 7 (.o (.c (.k (.bool false)))),.sl 8 (.o (.c (.p 0 0))),.sl 9 (.o (.c (.p 0 0))),.sl 10 (.o (.c (.p 0 0))),.sl 11 (yh 0),.sl 12 (yh 1),.sl 13 (yh 2),.bx 0 62 [.h 0,.k (.bool false)]]) (C:=((1005000,.bin .lss 3 (yh 3) (yh 2) (yh 4)) ::
  (10004,.fb 4 false) ::
  []:List (Nat×Ent))) (H:=.no) 5000 (zipA.imp ⟨z_c yy,z_c yy,z_c yy,z_c yy,z_c yy,z_c yy,z_c yy,z_c yy,z_c yy,z_c yy,z_c yy,z_b ⟨yy,yy,trivial⟩,trivial⟩) (zf ⟨zb,zb,zb,zb,zb,trivial⟩ trivial ⟨⟨rfl,zh⟩,trivial⟩) ⟨e_bin (za rfl) (za rfl) (za rfl) (r_cmp (congrArg some e501)),
  e_fbv h502,
  trivial⟩ mixed hR trivial (fun _ _ _ hs=>by cases hs) (by kernel_rfl:zz (KN w0) Tryz.prog _ .no ⟨ntOf Tryz.prog 36,[0],[]⟩ (lp Tryz.prog 36 0) 5000 zC (.x 0) [.sl 0 (.o (.c (.p 0 0))),.sl 6 (.o (.c (.p 0 0))),.sl 7 (.o (.c (.k (.bool false)))),.sl 8 (.o (.c (.p 0 0))),.sl 9 (.o (.c (.p 0 0))),.sl 10 (.o (.c (.p 0 0))),.sl 11 (yh 0),.sl 12 (yh 1),.sl 13 (yh 2),.bx 0 62 [.h 0,.k (.bool false)]]=true) rfl (zipA.imp ⟨z_c yy,z_c yy,z_c yy,z_c yy,z_c yy,z_c yy,z_c (fun β v W h=>(zc u0 β v W).2 h),z_c (fun β v W h=>(zc u1 β v W).2 h),z_c (fun β v W h=>(zc u2 β v W).2 h),z_b ⟨fun β v W h=>(zc u0 β v W).2 h,yy,trivial⟩,trivial⟩)
def wrB_X (l:(List UInt8)) (v1:Int) (v2:Int) (t:wrA_T):Prop:=(∃(v501:Bool),∃(n503:Nat),∃(b504:UInt8),∃(v507:Bool),∃(v509:Bool),((decide (t.i<v2))=v501)∧(((t.i == (9:Int)))=v507)∧((decide ((b504.toNat:Int) > (1:Int)))=v509)∧(v501=true)∧(t.i=(n503:Int))∧((l:List UInt8)[n503]?=some b504)∧(v507=true)∧(v509=true)∧True)∨(∃(v501:Bool),∃(n503:Nat),∃(b504:UInt8),∃(v507:Bool),∃(v509:Bool),∃(v511:Bool),∃(v513:Bool),((decide (t.i<v2))=v501)∧(((t.i == (9:Int)))=v507)∧((decide ((b504.toNat:Int) > (1:Int)))=v509)∧((decide (t.i > (0:Int)))=v511)∧((((b504.toNat:Int) == (0:Int)))=v513)∧(v501=true)∧(t.i=(n503:Int))∧((l:List UInt8)[n503]?=some b504)∧(v507=true)∧(v509=false)∧(v511=true)∧(v513=true)∧True)∨(∃(v501:Bool),∃(n503:Nat),∃(b504:UInt8),∃(v507:Bool),∃(v509:Bool),∃(v511:Bool),((decide (t.i<v2))=v501)∧(((t.i == (9:Int)))=v507)∧((decide (t.i > (0:Int)))=v509)∧((((b504.toNat:Int) == (0:Int)))=v511)∧(v501=true)∧(t.i=(n503:Int))∧((l:List UInt8)[n503]?=some b504)∧(v507=false)∧(v509=true)∧(v511=true)∧True)∨(∃(v501:Bool),((decide (t.i<v2))=v501)∧(v501=false)∧True)
theorem zme {w0:World} (l:(List UInt8)) (v1:Int) (v2:Int) {F:Fact} (u0:F.c 0=pS l) (u1:F.c 1=pI v1) (u2:F.c 2=pI v2) (R:Frm) (hR:R.pm=⟨ntOf Tryz.prog 36,[0],[]⟩) (J:wrA_T→Prop) (m:wrA_T→Nat) (hJ:J { code:=(0:Int),i:=(0:Int) }) (rounds:∀t,J t→wrB_X l v1 v2 t ∨∃t',wrA_N l v1 v2 t t'∧m t'<m t∧J t'):zg (KN w0) Tryz.prog F R wrB_S (lp Tryz.prog 36 0):=by
 refine zP (T:=wrA_T) (fun t=>FL [pS l,pI v1,pI v2,pI t.i] [] [(5000,pV (.int .u64 t.code))]) J m { code:=(0:Int),i:=(0:Int) } zC hJ (zipA.imp ⟨z_c yy,z_c yy,z_c yy,z_c yy,z_c yy,z_c yy,z_c yy,z_c (fun β v W h=>(zc u0 β v W).1 h),z_c (fun β v W h=>(zc u1 β v W).1 h),z_c (fun β v W h=>(zc u2 β v W).1 h),z_c yy,z_b ⟨fun β v W h=>(zc u0 β v W).1 h,yy,trivial⟩,trivial⟩) rfl fun t ht=>?_
 rcases rounds t ht with hz_ | ⟨t',hz_,hm_,hj_⟩
 ·refine .inl ?_
  rcases hz_ with ⟨v501,n503,b504,v507,v509,e501,e507,e509,h502,s505,s506,h508,h510,_⟩ | ⟨v501,n503,b504,v507,v509,v511,v513,e501,e507,e509,e511,e513,h502,s505,s506,h508,h510,s512,h514,_⟩ | ⟨v501,n503,b504,v507,v509,v511,e501,e507,e509,e511,h502,s505,s506,h508,h510,h512,_⟩ | ⟨v501,e501,h502,_⟩
  ·exact zoV  l v1 v2  t.code t.i v501 n503 b504 v507 v509 e501 e507 e509 h502 s505 s506 h508 h510  F u0 u1 u2  R hR
  ·exact zoW  l v1 v2  t.code t.i v501 n503 b504 v507 v509 v511 v513 e501 e507 e509 e511 e513 h502 s505 s506 h508 h510 s512 h514  F u0 u1 u2  R hR
  ·exact zwR  l v1 v2  t.code t.i v501 n503 b504 v507 v509 v511 e501 e507 e509 e511 h502 s505 s506 h508 h510 h512  F u0 u1 u2  R hR
  ·exact zwS  l v1 v2  t.code t.i v501 e501 h502  F u0 u1 u2  R hR
 ·refine .inr ⟨t',hm_,hj_,?_⟩
  rcases hz_ with ⟨v501,n503,b504,v507,v509,v511,v513,v515,v516,v517,v519,v520,v521,v523,e501,e507,e509,e511,e513,e515,e516,e517,e519,e520,e521,e523,h502,s505,s506,h508,h510,s512,h514,s518,h522,q0,q1,_⟩ | ⟨v501,n503,b504,v507,v509,v511,v513,v514,v515,v517,v518,v519,v521,e501,e507,e509,e511,e513,e514,e515,e517,e518,e519,e521,h502,s505,s506,h508,h510,h512,s516,h520,q0,q1,_⟩ | ⟨v501,n503,b504,v507,v509,v511,v512,v513,v515,v516,v517,v519,e501,e507,e509,e511,e512,e513,e515,e516,e517,e519,h502,s505,s506,h508,h510,s514,h518,q0,q1,_⟩
  ·exact zoO  l v1 v2  t.code t.i v501 n503 b504 v507 v509 v511 v513 v515 v516 v517 v519 v520 v521 v523 e501 e507 e509 e511 e513 e515 e516 e517 e519 e520 e521 e523 h502 s505 s506 h508 h510 s512 h514 s518 h522 t'.code t'.i q0 q1 R hR
  ·exact zwQ  l v1 v2  t.code t.i v501 n503 b504 v507 v509 v511 v513 v514 v515 v517 v518 v519 v521 e501 e507 e509 e511 e513 e514 e515 e517 e518 e519 e521 h502 s505 s506 h508 h510 h512 s516 h520 t'.code t'.i q0 q1 R hR
  ·exact zoS  l v1 v2  t.code t.i v501 n503 b504 v507 v509 v511 v512 v513 v515 v516 v517 v519 e501 e507 e509 e511 e512 e513 e515 e516 e517 e519 h502 s505 s506 h508 h510 s514 h518 t'.code t'.i q0 q1 R hR
theorem zoU {w0:World} (l:(List UInt8)) (v1:Int) (v2:Int) {F:Fact} (u0:F.c 0=pS l) (u1:F.c 1=pI v1) (u2:F.c 2=pI v2) (R:Frm) (hR:R.pm=⟨ntOf Tryz.prog 36,[0],[]⟩) (h1:((l:List UInt8).length:Int)=v1) (h2:(if v1<(10:Int) then v1 else (10:Int))=v2) (hd:¬ (decGo 0 l).isSome=true):zg (KN w0) Tryz.prog F R wrB_S (lp Tryz.prog 36 0):=by
 refine zme  l v1 v2   u0 u1 u2 R hR (fun ⟨code,i⟩=>∃k c:Nat,i=(k:Int)∧code=(c:Int)∧RdJ l k c) (fun ⟨code,i⟩=>(10 - i).toNat) ⟨0,0,rfl,rfl,ze3 l⟩ fun t hJ=>?_
 obtain ⟨code,i⟩:=t
 dsimp only at hJ
 obtain ⟨k,c,hi,hc,hJ⟩:=hJ
 have hk9:=hJ.1
 obtain ⟨v501,e501⟩:∃v,(decide (i<v2))=v:=⟨_,rfl⟩
 cases h502:v501 with
 | true =>
  obtain ⟨n503,b504,s505,s506⟩:∃(n503:Nat) (b504:UInt8),i=(n503:Int)∧(l:List UInt8)[n503]?=some b504:=by (have dh502:=of_decide_eq_true (e501.trans h502);have hlt:k<l.length:=(by split at h2<;>omega);exact ⟨k,l[k],hi,List.getElem?_eq_getElem hlt⟩)
  obtain ⟨v507,e507⟩:∃v,((i == (9:Int)))=v:=⟨_,rfl⟩
  cases h508:v507 with
  | true =>
   obtain ⟨v509,e509⟩:∃v,(decide ((b504.toNat:Int) > (1:Int)))=v:=⟨_,rfl⟩
   cases h510:v509 with
   | true =>
    refine .inl (Or.inl (⟨v501,n503,b504,v507,v509,e501,e507,e509,h502,s505,s506,h508,h510,trivial⟩))
   | false =>
    obtain ⟨v511,e511⟩:∃v,(decide (i > (0:Int)))=v:=⟨_,rfl⟩
    have s512:v511=true:=by (have dh502:=of_decide_eq_true (e501.trans h502);have dh508:=eq_of_beq (e507.trans h508);have dh510:=of_decide_eq_false (e509.trans h510);rw [← e511];exact decide_eq_true (by omega))
    obtain ⟨v513,e513⟩:∃v,(((b504.toNat:Int) == (0:Int)))=v:=⟨_,rfl⟩
    cases h514:v513 with
    | true =>
     refine .inl (Or.inr (Or.inl (⟨v501,n503,b504,v507,v509,v511,v513,e501,e507,e509,e511,e513,h502,s505,s506,h508,h510,s512,h514,trivial⟩)))
    | false =>
     obtain ⟨v515,e515⟩:∃v,(IntKind.u8.wrap (BitVec.ofInt IntKind.u8.bits (b504.toNat:Int) &&& BitVec.ofInt IntKind.u8.bits (127:Int)).toNat)=v:=⟨_,rfl⟩
     obtain ⟨v516,e516⟩:∃v,(IntKind.u64.wrap v515)=v:=⟨_,rfl⟩
     obtain ⟨v517,e517⟩:∃v,(IntKind.i64.wrap ((7:Int)*i))=v:=⟨_,rfl⟩
     have s518:0≤v517:=by (rw [← e517,hi,wri (by omega)];omega)
     obtain ⟨v519,e519⟩:∃v,(IntKind.u64.wrap (v516*2 ^ min (v517:Int).toNat IntKind.u64.bits))=v:=⟨_,rfl⟩
     obtain ⟨v520,e520⟩:∃v,(IntKind.u64.wrap (BitVec.ofInt IntKind.u64.bits code ||| BitVec.ofInt IntKind.u64.bits v519).toNat)=v:=⟨_,rfl⟩
     obtain ⟨v521,e521⟩:∃v,(decide ((b504.toNat:Int)<(128:Int)))=v:=⟨_,rfl⟩
     cases h522:v521 with
     | true =>
      obtain ⟨v523,e523⟩:∃v,(IntKind.i64.wrap (i+(1:Int)))=v:=⟨_,rfl⟩
      obtain ⟨n524,s525⟩:∃(n524:Nat),v523=(n524:Int):=by (refine ⟨k+1,?_⟩;rw [← e523,hi,wri (by omega)];omega)
      obtain ⟨v526,e526⟩:∃v,((l:List UInt8).drop n524)=v:=⟨_,rfl⟩
      have s527:n524≤(l:List UInt8).length:=by (have dh502:=of_decide_eq_true (e501.trans h502);have dh508:=eq_of_beq (e507.trans h508);have dh510:=of_decide_eq_false (e509.trans h510);have dh514:=ne_of_beq_false (e513.trans h514);have dh522:=of_decide_eq_true (e521.trans h522);have hlt:k<l.length:=(by split at h2<;>omega);have:=e523;rw [hi,wri (by omega)] at this;omega)
      obtain ⟨v528,e528⟩:∃v,((v520:Int).fdiv (2 ^ min ((1:Int):Int).toNat IntKind.u64.bits))=v:=⟨_,rfl⟩
      obtain ⟨v529,e529⟩:∃v,(IntKind.i64.wrap v528)=v:=⟨_,rfl⟩
      obtain ⟨v530,e530⟩:∃v,(IntKind.u64.wrap (BitVec.ofInt IntKind.u64.bits v520 &&& BitVec.ofInt IntKind.u64.bits (1:Int)).toNat)=v:=⟨_,rfl⟩
      obtain ⟨v531,e531⟩:∃v,(IntKind.i64.wrap v530)=v:=⟨_,rfl⟩
      obtain ⟨v532,e532⟩:∃v,(IntKind.i64.wrap (0 - v531))=v:=⟨_,rfl⟩
      obtain ⟨v533,e533⟩:∃v,(IntKind.i64.wrap (BitVec.ofInt IntKind.i64.bits v529 ^^^ BitVec.ofInt IntKind.i64.bits v532).toNat)=v:=⟨_,rfl⟩
      exfalso
      have dh502:=of_decide_eq_true (e501.trans h502);have dh508:=eq_of_beq (e507.trans h508);have dh510:=of_decide_eq_false (e509.trans h510);have dh514:=ne_of_beq_false (e513.trans h514);have dh522:=of_decide_eq_true (e521.trans h522)
      have hnk:n503=k:=(by omega)
      subst hnk
      have hb:=s506
      have hnb:¬ badB n503 b504:=(by unfold badB;omega)
      have x1:v516=((b504.toNat%128:Nat):Int):=(by rw [← e516,← e515,and8,wu64];omega)
      have x2:v517=((7*n503:Nat):Int):=(by rw [← e517,hi,wri (by omega)];omega)
      have x3:v520=((c+2 ^ (7*n503)*(b504.toNat%128):Nat):Int):=(by rw [← e520,← e519,x1,x2,hc];exact rd_or hJ hnb)
      have hs:b504.toNat<128:=(by omega)
      have hdn:=qW hJ hb hnb hs
      exact hd (by rw [hdn];rfl)
     | false =>
      obtain ⟨v523,e523⟩:∃v,(IntKind.i64.wrap (i+(1:Int)))=v:=⟨_,rfl⟩
      refine .inr ⟨⟨v520,v523⟩,Or.inl (⟨v501,n503,b504,v507,v509,v511,v513,v515,v516,v517,v519,v520,v521,v523,e501,e507,e509,e511,e513,e515,e516,e517,e519,e520,e521,e523,h502,s505,s506,h508,h510,s512,h514,s518,h522,rfl,rfl,trivial⟩),?_,?_⟩
      all_goals (have dh502:=of_decide_eq_true (e501.trans h502);have dh508:=eq_of_beq (e507.trans h508);have dh510:=of_decide_eq_false (e509.trans h510);have dh514:=ne_of_beq_false (e513.trans h514);have dh522:=of_decide_eq_false (e521.trans h522);have hnk:n503=k:=(by omega);subst hnk;have hb:=s506;have hnb:¬ badB n503 b504:=(by unfold badB;omega);have x1:v516=((b504.toNat%128:Nat):Int):=(by rw [← e516,← e515,and8,wu64];omega);have x2:v517=((7*n503:Nat):Int):=(by rw [← e517,hi,wri (by omega)];omega);have x3:v520=((c+2 ^ (7*n503)*(b504.toNat%128):Nat):Int):=(by rw [← e520,← e519,x1,x2,hc];exact rd_or hJ hnb);have x4:v523=((n503+1:Nat):Int):=(by rw [← e523,hi,wri (by omega)];omega);have hbl:=b504.toNat_lt)
      ·show (10 - v523).toNat<(10 - i).toNat
       omega
      ·exact ⟨n503+1,_,x4,(by rw [x3,show b504.toNat%128=b504.toNat - 128 by omega]),qX hJ hb hnb (by omega)⟩
  | false =>
   obtain ⟨v509,e509⟩:∃v,(decide (i > (0:Int)))=v:=⟨_,rfl⟩
   cases h510:v509 with
   | true =>
    obtain ⟨v511,e511⟩:∃v,(((b504.toNat:Int) == (0:Int)))=v:=⟨_,rfl⟩
    cases h512:v511 with
    | true =>
     refine .inl (Or.inr (Or.inr (Or.inl (⟨v501,n503,b504,v507,v509,v511,e501,e507,e509,e511,h502,s505,s506,h508,h510,h512,trivial⟩))))
    | false =>
     obtain ⟨v513,e513⟩:∃v,(IntKind.u8.wrap (BitVec.ofInt IntKind.u8.bits (b504.toNat:Int) &&& BitVec.ofInt IntKind.u8.bits (127:Int)).toNat)=v:=⟨_,rfl⟩
     obtain ⟨v514,e514⟩:∃v,(IntKind.u64.wrap v513)=v:=⟨_,rfl⟩
     obtain ⟨v515,e515⟩:∃v,(IntKind.i64.wrap ((7:Int)*i))=v:=⟨_,rfl⟩
     have s516:0≤v515:=by (rw [← e515,hi,wri (by omega)];omega)
     obtain ⟨v517,e517⟩:∃v,(IntKind.u64.wrap (v514*2 ^ min (v515:Int).toNat IntKind.u64.bits))=v:=⟨_,rfl⟩
     obtain ⟨v518,e518⟩:∃v,(IntKind.u64.wrap (BitVec.ofInt IntKind.u64.bits code ||| BitVec.ofInt IntKind.u64.bits v517).toNat)=v:=⟨_,rfl⟩
     obtain ⟨v519,e519⟩:∃v,(decide ((b504.toNat:Int)<(128:Int)))=v:=⟨_,rfl⟩
     cases h520:v519 with
     | true =>
      obtain ⟨v521,e521⟩:∃v,(IntKind.i64.wrap (i+(1:Int)))=v:=⟨_,rfl⟩
      obtain ⟨n522,s523⟩:∃(n522:Nat),v521=(n522:Int):=by (refine ⟨k+1,?_⟩;rw [← e521,hi,wri (by omega)];omega)
      obtain ⟨v524,e524⟩:∃v,((l:List UInt8).drop n522)=v:=⟨_,rfl⟩
      have s525:n522≤(l:List UInt8).length:=by (have dh502:=of_decide_eq_true (e501.trans h502);have dh508:=ne_of_beq_false (e507.trans h508);have dh510:=of_decide_eq_true (e509.trans h510);have dh512:=ne_of_beq_false (e511.trans h512);have dh520:=of_decide_eq_true (e519.trans h520);have hlt:k<l.length:=(by split at h2<;>omega);have:=e521;rw [hi,wri (by omega)] at this;omega)
      obtain ⟨v526,e526⟩:∃v,((v518:Int).fdiv (2 ^ min ((1:Int):Int).toNat IntKind.u64.bits))=v:=⟨_,rfl⟩
      obtain ⟨v527,e527⟩:∃v,(IntKind.i64.wrap v526)=v:=⟨_,rfl⟩
      obtain ⟨v528,e528⟩:∃v,(IntKind.u64.wrap (BitVec.ofInt IntKind.u64.bits v518 &&& BitVec.ofInt IntKind.u64.bits (1:Int)).toNat)=v:=⟨_,rfl⟩
      obtain ⟨v529,e529⟩:∃v,(IntKind.i64.wrap v528)=v:=⟨_,rfl⟩
      obtain ⟨v530,e530⟩:∃v,(IntKind.i64.wrap (0 - v529))=v:=⟨_,rfl⟩
      obtain ⟨v531,e531⟩:∃v,(IntKind.i64.wrap (BitVec.ofInt IntKind.i64.bits v527 ^^^ BitVec.ofInt IntKind.i64.bits v530).toNat)=v:=⟨_,rfl⟩
      exfalso
      have dh502:=of_decide_eq_true (e501.trans h502);have dh508:=ne_of_beq_false (e507.trans h508);have dh510:=of_decide_eq_true (e509.trans h510);have dh512:=ne_of_beq_false (e511.trans h512);have dh520:=of_decide_eq_true (e519.trans h520)
      have hnk:n503=k:=(by omega)
      subst hnk
      have hb:=s506
      have hnb:¬ badB n503 b504:=(by unfold badB;omega)
      have x1:v514=((b504.toNat%128:Nat):Int):=(by rw [← e514,← e513,and8,wu64];omega)
      have x2:v515=((7*n503:Nat):Int):=(by rw [← e515,hi,wri (by omega)];omega)
      have x3:v518=((c+2 ^ (7*n503)*(b504.toNat%128):Nat):Int):=(by rw [← e518,← e517,x1,x2,hc];exact rd_or hJ hnb)
      have hs:b504.toNat<128:=(by omega)
      have hdn:=qW hJ hb hnb hs
      exact hd (by rw [hdn];rfl)
     | false =>
      obtain ⟨v521,e521⟩:∃v,(IntKind.i64.wrap (i+(1:Int)))=v:=⟨_,rfl⟩
      refine .inr ⟨⟨v518,v521⟩,Or.inr (Or.inl (⟨v501,n503,b504,v507,v509,v511,v513,v514,v515,v517,v518,v519,v521,e501,e507,e509,e511,e513,e514,e515,e517,e518,e519,e521,h502,s505,s506,h508,h510,h512,s516,h520,rfl,rfl,trivial⟩)),?_,?_⟩
      all_goals (have dh502:=of_decide_eq_true (e501.trans h502);have dh508:=ne_of_beq_false (e507.trans h508);have dh510:=of_decide_eq_true (e509.trans h510);have dh512:=ne_of_beq_false (e511.trans h512);have dh520:=of_decide_eq_false (e519.trans h520);have hnk:n503=k:=(by omega);subst hnk;have hb:=s506;have hnb:¬ badB n503 b504:=(by unfold badB;omega);have x1:v514=((b504.toNat%128:Nat):Int):=(by rw [← e514,← e513,and8,wu64];omega);have x2:v515=((7*n503:Nat):Int):=(by rw [← e515,hi,wri (by omega)];omega);have x3:v518=((c+2 ^ (7*n503)*(b504.toNat%128):Nat):Int):=(by rw [← e518,← e517,x1,x2,hc];exact rd_or hJ hnb);have x4:v521=((n503+1:Nat):Int):=(by rw [← e521,hi,wri (by omega)];omega);have hbl:=b504.toNat_lt)
      ·show (10 - v521).toNat<(10 - i).toNat
       omega
      ·exact ⟨n503+1,_,x4,(by rw [x3,show b504.toNat%128=b504.toNat - 128 by omega]),qX hJ hb hnb (by omega)⟩
   | false =>
    obtain ⟨v511,e511⟩:∃v,(IntKind.u8.wrap (BitVec.ofInt IntKind.u8.bits (b504.toNat:Int) &&& BitVec.ofInt IntKind.u8.bits (127:Int)).toNat)=v:=⟨_,rfl⟩
    obtain ⟨v512,e512⟩:∃v,(IntKind.u64.wrap v511)=v:=⟨_,rfl⟩
    obtain ⟨v513,e513⟩:∃v,(IntKind.i64.wrap ((7:Int)*i))=v:=⟨_,rfl⟩
    have s514:0≤v513:=by (rw [← e513,hi,wri (by omega)];omega)
    obtain ⟨v515,e515⟩:∃v,(IntKind.u64.wrap (v512*2 ^ min (v513:Int).toNat IntKind.u64.bits))=v:=⟨_,rfl⟩
    obtain ⟨v516,e516⟩:∃v,(IntKind.u64.wrap (BitVec.ofInt IntKind.u64.bits code ||| BitVec.ofInt IntKind.u64.bits v515).toNat)=v:=⟨_,rfl⟩
    obtain ⟨v517,e517⟩:∃v,(decide ((b504.toNat:Int)<(128:Int)))=v:=⟨_,rfl⟩
    cases h518:v517 with
    | true =>
     obtain ⟨v519,e519⟩:∃v,(IntKind.i64.wrap (i+(1:Int)))=v:=⟨_,rfl⟩
     obtain ⟨n520,s521⟩:∃(n520:Nat),v519=(n520:Int):=by (refine ⟨k+1,?_⟩;rw [← e519,hi,wri (by omega)];omega)
     obtain ⟨v522,e522⟩:∃v,((l:List UInt8).drop n520)=v:=⟨_,rfl⟩
     have s523:n520≤(l:List UInt8).length:=by (have dh502:=of_decide_eq_true (e501.trans h502);have dh508:=ne_of_beq_false (e507.trans h508);have dh510:=of_decide_eq_false (e509.trans h510);have dh518:=of_decide_eq_true (e517.trans h518);have hlt:k<l.length:=(by split at h2<;>omega);have:=e519;rw [hi,wri (by omega)] at this;omega)
     obtain ⟨v524,e524⟩:∃v,((v516:Int).fdiv (2 ^ min ((1:Int):Int).toNat IntKind.u64.bits))=v:=⟨_,rfl⟩
     obtain ⟨v525,e525⟩:∃v,(IntKind.i64.wrap v524)=v:=⟨_,rfl⟩
     obtain ⟨v526,e526⟩:∃v,(IntKind.u64.wrap (BitVec.ofInt IntKind.u64.bits v516 &&& BitVec.ofInt IntKind.u64.bits (1:Int)).toNat)=v:=⟨_,rfl⟩
     obtain ⟨v527,e527⟩:∃v,(IntKind.i64.wrap v526)=v:=⟨_,rfl⟩
     obtain ⟨v528,e528⟩:∃v,(IntKind.i64.wrap (0 - v527))=v:=⟨_,rfl⟩
     obtain ⟨v529,e529⟩:∃v,(IntKind.i64.wrap (BitVec.ofInt IntKind.i64.bits v525 ^^^ BitVec.ofInt IntKind.i64.bits v528).toNat)=v:=⟨_,rfl⟩
     exfalso
     have dh502:=of_decide_eq_true (e501.trans h502);have dh508:=ne_of_beq_false (e507.trans h508);have dh510:=of_decide_eq_false (e509.trans h510);have dh518:=of_decide_eq_true (e517.trans h518)
     have hnk:n503=k:=(by omega)
     subst hnk
     have hb:=s506
     have hnb:¬ badB n503 b504:=(by unfold badB;omega)
     have x1:v512=((b504.toNat%128:Nat):Int):=(by rw [← e512,← e511,and8,wu64];omega)
     have x2:v513=((7*n503:Nat):Int):=(by rw [← e513,hi,wri (by omega)];omega)
     have x3:v516=((c+2 ^ (7*n503)*(b504.toNat%128):Nat):Int):=(by rw [← e516,← e515,x1,x2,hc];exact rd_or hJ hnb)
     have hs:b504.toNat<128:=(by omega)
     have hdn:=qW hJ hb hnb hs
     exact hd (by rw [hdn];rfl)
    | false =>
     obtain ⟨v519,e519⟩:∃v,(IntKind.i64.wrap (i+(1:Int)))=v:=⟨_,rfl⟩
     refine .inr ⟨⟨v516,v519⟩,Or.inr (Or.inr (⟨v501,n503,b504,v507,v509,v511,v512,v513,v515,v516,v517,v519,e501,e507,e509,e511,e512,e513,e515,e516,e517,e519,h502,s505,s506,h508,h510,s514,h518,rfl,rfl,trivial⟩)),?_,?_⟩
     all_goals (have dh502:=of_decide_eq_true (e501.trans h502);have dh508:=ne_of_beq_false (e507.trans h508);have dh510:=of_decide_eq_false (e509.trans h510);have dh518:=of_decide_eq_false (e517.trans h518);have hnk:n503=k:=(by omega);subst hnk;have hb:=s506;have hnb:¬ badB n503 b504:=(by unfold badB;omega);have x1:v512=((b504.toNat%128:Nat):Int):=(by rw [← e512,← e511,and8,wu64];omega);have x2:v513=((7*n503:Nat):Int):=(by rw [← e513,hi,wri (by omega)];omega);have x3:v516=((c+2 ^ (7*n503)*(b504.toNat%128):Nat):Int):=(by rw [← e516,← e515,x1,x2,hc];exact rd_or hJ hnb);have x4:v519=((n503+1:Nat):Int):=(by rw [← e519,hi,wri (by omega)];omega);have hbl:=b504.toNat_lt)
     ·show (10 - v519).toNat<(10 - i).toNat
      omega
     ·exact ⟨n503+1,_,x4,(by rw [x3,show b504.toNat%128=b504.toNat - 128 by omega]),qX hJ hb hnb (by omega)⟩
 | false =>
  refine .inl (Or.inr (Or.inr (Or.inr (⟨v501,e501,h502,trivial⟩))))
theorem zex {w0:World} (l:(List UInt8)) (v1:Int) (v2:Int) (e1:(((l:List UInt8).length:Int))=v1) (e2:((if v1<(10:Int) then v1 else (10:Int)))=v2) (L_wrB:∀R:Frm,R.pm=⟨ntOf Tryz.prog 36,[0],[]⟩→zg (KN w0) Tryz.prog (FL [pS l,pI v1,pI v2] []) R wrB_S (lp Tryz.prog 36 0)):BFun false (KN w0) Tryz.prog 36 [.o (.c (.p 0 0))] [(62,[.d (pS l),.d (pV (.bool false))])] (.o (.c (.d (pV (.int .i64 0))))) [(62,[.d (pV (.string ⟨#[]⟩)),.d (pV (.bool true))])] :=
 con_b (pan:=false) (z8 (F:=FL [pS l,pI v1,pI v2] []) (C:=[(1000002,.call ⟨23,[.o (.c (.p 0 0))],[.bx 0 62 [.h 0,.k (.bool false)]],.o (.c (.k (.bool false))),[.bx 0 62 [.h 0,.k (.bool false)]]⟩),
  (1000008,.op (.len [9] 3) [yh 0] [] (yh 1)),
  (1000009,.op (.min [3,3] 3) [LF (.k (.int .i64 10)),yh 1] [] (yh 2)),
  (1001012,.call ⟨67,[.o (.c (.p 0 0))],[.bx 0 62 [.h 0,.k (.bool false)]],.t [],[.bx 0 62 [.k (.string ⟨#[]⟩),.k (.bool true)]]⟩)]) (k:=⟨36,[.o (.c (.p 0 0))],[.bx 0 62 [.h 0,.k (.bool false)]],.o (.c (.k (.int .i64 0))),[.bx 0 62 [.k (.string ⟨#[]⟩),.k (.bool true)]]⟩) ⟨[wrB_S],[],0⟩ [] 0 (zf ⟨zb,zb,zb,trivial⟩) ⟨b_con (pan:=false) (zbU (some l)),
  e_op1 (za rfl) (za rfl) (fun W=>by rw [← e1];exact zhL (by kernel_rfl) W),
  e_op2 zd (za rfl) (za rfl) (fun W=>by rw [← e2];exact zmz W),
  b_con (pan:=false) (zc2 (some l)),
  trivial⟩ mixed trivial (fun R hR p hp s hs=>by
 have hl:zH (qg Tryz.prog 36)=[(5,lp Tryz.prog 36 0)]:=by kernel_rfl
 rw [hl] at hp
 simp only [List.mem_cons,List.not_mem_nil,or_false] at hp
 rcases hp with rfl
 ·have e:s=wrB_S:=(Option.some.inj hs).symm
  subst e;exact L_wrB R hR) (by kernel_rfl))
theorem zey {w0:World} (l:(List UInt8)) (v1:Int) (v2:Int) (o:Int) (l2:(List UInt8)) (e1:(((l:List UInt8).length:Int))=v1) (e2:((if v1<(10:Int) then v1 else (10:Int)))=v2) (L_wrA:∀R:Frm,R.pm=⟨ntOf Tryz.prog 36,[0],[]⟩→zg (KN w0) Tryz.prog (FL [pS l,pI v1,pI v2,pI o,pS l2] []) R wrA_S (lp Tryz.prog 36 0)):BFun false (KN w0) Tryz.prog 36 [.o (.c (.p 0 0))] [(62,[.d (pS l),.d (pV (.bool false))])] (.o (.c (.d (pI o)))) [(62,[.d (pS l2),.d (pV (.bool false))])] :=
 con_b (pan:=false) (z8 (F:=FL [pS l,pI v1,pI v2,pI o,pS l2] []) (C:=[(1000002,.call ⟨23,[.o (.c (.p 0 0))],[.bx 0 62 [.h 0,.k (.bool false)]],.o (.c (.k (.bool false))),[.bx 0 62 [.h 0,.k (.bool false)]]⟩),
  (1000008,.op (.len [9] 3) [yh 0] [] (yh 1)),
  (1000009,.op (.min [3,3] 3) [LF (.k (.int .i64 10)),yh 1] [] (yh 2))]) (k:=⟨36,[.o (.c (.p 0 0))],[.bx 0 62 [.h 0,.k (.bool false)]],yh 3,[.bx 0 62 [.h 4,.k (.bool false)]]⟩) ⟨[wrA_S],[],0⟩ [] 0 (zf ⟨zb,zb,zb,zb,zb,trivial⟩) ⟨b_con (pan:=false) (zbU (some l)),
  e_op1 (za rfl) (za rfl) (fun W=>by rw [← e1];exact zhL (by kernel_rfl) W),
  e_op2 zd (za rfl) (za rfl) (fun W=>by rw [← e2];exact zmz W),
  trivial⟩ mixed trivial (fun R hR p hp s hs=>by
 have hl:zH (qg Tryz.prog 36)=[(5,lp Tryz.prog 36 0)]:=by kernel_rfl
 rw [hl] at hp
 simp only [List.mem_cons,List.not_mem_nil,or_false] at hp
 rcases hp with rfl
 ·have e:s=wrA_S:=(Option.some.inj hs).symm
  subst e;exact L_wrA R hR) (by kernel_rfl))
theorem ziN {w0:World} (l:List UInt8) (r:Int) (st2:St) (hr:(rdI (some l)).1=r) (hs:(rdI (some l)).2=st2):BFun false (KN w0) Tryz.prog 36 [.o (.c (.p 0 0))] [(62,[.d (pS l),.d (pV (.bool false))])] (.o (.c (.d (pI r)))) [(62,[.d (pS (lfO st2)),.d (pB (bdO st2))])]:=by
 obtain ⟨v1,e1⟩:∃v,(((l:List UInt8).length:Int))=v:=⟨_,rfl⟩
 obtain ⟨v2,e2⟩:∃v,((if v1<(10:Int) then v1 else (10:Int)))=v:=⟨_,rfl⟩
 by_cases c5:(decGo 0 l).isSome=true
 ·
  obtain ⟨o,l2,hO_wrA⟩:∃(o:Int) (l2:(List UInt8)),decI l=some (o,l2):=(by unfold decI;cases hz:decGo 0 l with | none=>(rw [hz] at c5;cases c5) | some x=>exact ⟨_,_,rfl⟩)
  have r0:r=o:=by
   first | rw [← hr] | rw [← hs]
   simp only [rdI,hO_wrA]
  have r1:st2=some l2:=by
   first | rw [← hr] | rw [← hs]
   simp only [rdI,hO_wrA]
  rw [r0,r1];exact zey l v1 v2 o l2 e1 e2 (fun R hR=>zoM l v1 v2  o l2 rfl rfl rfl rfl rfl R hR e1 e2 c5 hO_wrA)
 ·
  have r0:r=(0:Int):=by
   have hn:decI l=none:=(by unfold decI;cases hz:decGo 0 l with | none=>rfl | some x=>(rw [hz] at c5;exact absurd rfl c5))
   first | rw [← hr] | rw [← hs]
   simp only [rdI,hn]
  have r1:st2=none:=by
   have hn:decI l=none:=(by unfold decI;cases hz:decGo 0 l with | none=>rfl | some x=>(rw [hz] at c5;exact absurd rfl c5))
   first | rw [← hr] | rw [← hs]
   simp only [rdI,hn]
  rw [r0,r1];exact zex l v1 v2 e1 e2 (fun R hR=>zoU l v1 v2   rfl rfl rfl R hR e1 e2 c5)
theorem zdd {w0:World}:BFun false (KN w0) Tryz.prog 36 [.o (.c (.p 0 0))] [(62,[.d (pV (.string ⟨#[]⟩)),.d (pV (.bool true))])] (.o (.c (.d (pV (.int .i64 0))))) [(62,[.d (pV (.string ⟨#[]⟩)),.d (pV (.bool true))])] :=
 con_b (pan:=false) (zl (F:=FL [] []) (C:=[(1000002,.call ⟨23,[.o (.c (.p 0 0))],[.bx 0 62 [.k (.string ⟨#[]⟩),.k (.bool true)]],.o (.c (.k (.bool true))),[.bx 0 62 [.k (.string ⟨#[]⟩),.k (.bool true)]]⟩)]) (k:=⟨36,[.o (.c (.p 0 0))],[.bx 0 62 [.k (.string ⟨#[]⟩),.k (.bool true)]],.o (.c (.k (.int .i64 0))),[.bx 0 62 [.k (.string ⟨#[]⟩),.k (.bool true)]]⟩) 0 (zf trivial) ⟨b_con (pan:=false) (zbU none),
  trivial⟩ mixed (by kernel_rfl))
theorem zg8 {w0:World} (r:Int) (st2:St) (hr:(rdI none).1=r) (hs:(rdI none).2=st2):BFun false (KN w0) Tryz.prog 36 [.o (.c (.p 0 0))] [(62,[.d (pV (.string ⟨#[]⟩)),.d (pV (.bool true))])] (.o (.c (.d (pI r)))) [(62,[.d (pS (lfO st2)),.d (pB (bdO st2))])]:=by
 have r0:r=(0:Int):=by
  first | rw [← hr] | rw [← hs]
  rfl
 have r1:st2=none:=by
  first | rw [← hr] | rw [← hs]
  rfl
 rw [r0,r1];exact zdd
theorem qu {w0:World} (st:St) (r:Int) (st2:St) (hr:(rdI st).1=r) (hs:(rdI st).2=st2):BFun false (KN w0) Tryz.prog 36 [.o (.c (.p 0 0))] [(62,[.d (pS (lfO st)),.d (pB (bdO st))])] (.o (.c (.d (pI r)))) [(62,[.d (pS (lfO st2)),.d (pB (bdO st2))])]:=by
 cases st with
 | none=>exact zg8 r st2 hr hs
 | some l=>exact ziN l r st2 hr hs
end Go.Proofs.YtjcegdldgjphiaaGreatDoor
