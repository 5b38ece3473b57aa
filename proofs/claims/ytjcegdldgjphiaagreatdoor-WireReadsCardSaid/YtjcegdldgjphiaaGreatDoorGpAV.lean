/-
  Merged: SymZ, WrB, WrC, WrRd, WrD, WrE, WrF, RtV, RtW, WrA, WrG.
-/
import Derived.Test.YtjcegdldgjphiaaGreatDoorGpAU
import Derived.Laws.IdiomStrings
import Derived.Laws.BytesArg
import Derived.Test.YtjcegdldgjphiaaGreatDoorGpAT
import Derived.Test.YtjcegdldgjphiaaGreatDoorGpAN
import Derived.Test.YtjcegdldgjphiaaGreatDoorGpAO
import Derived.Test.YtjcegdldgjphiaaGreatDoorGpAP
set_option linter.unusedSimpArgs false
set_option linter.unusedVariables false
set_option maxRecDepth 100000
namespace Go.Proofs.YtjcegdldgjphiaaGreatDoor
open Go.RowKit
def cB (x:UInt8):List Pred:=[pV (.int .u8 (x.toNat:Int))]
theorem zc9 (x:UInt8):(cB x).length=1:=rfl
section
variable {K:Kit} {P:Program} {F:Fact}
theorem zE (hb:K.bad .u8=false) (x:UInt8):FineAll K (cB x):=⟨zc (by simp [Kit.ck,ckf,hb]),trivial⟩
theorem zcd {W:World} {D:Dat}:∀{l:List UInt8} {vs:List Value},okl (l.flatMap cB) vs W D→vs=l.map fun b=>Value.int .u8 (b.toNat:Int)
 | [],[],_=>rfl
 | b::l,v::vs,h=>by
  rw [List.flatMap_cons] at h
  obtain ⟨h1,h2⟩:=h
  have e:v=.int .u8 (b.toNat:Int):=h1
  rw [e,zcd h2];rfl
 | [],_::_,h=>h.elim
 | _::_,[],h=>h.elim
theorem zex {W:World} {q:Nat} {us:Array Value} {T:TypeId} {fz:Nat×Nat} {l:List UInt8} (hh:W.heap[q]?=some (.cells us T fz)) (h:us.toList.take l.length=l.map fun b=>Value.int .u8 (b.toNat:Int)):∀j (hj:j<l.length),W.cell? ((⟨q,0,none⟩:Addr).add j)=some (.int .u8 (l[j].toNat:Int)):=by
 intro j hj
 rw [show (⟨q,0,none⟩:Addr).add j=⟨q,0+j,none⟩ from zbr ..,Nat.zero_add,zao hh]
 have h1:(us.toList.take l.length)[j]?=some (.int .u8 (l[j].toNat:Int)):=by rw [h];simp [hj]
 rw [List.getElem?_take_of_lt hj] at h1
 simpa using h1
theorem zvi {S T E:TypeId} {b n:Nat} {l:List UInt8} {o:Lf} (hS:P.underlying S=some (.slice E)) (hE:P.underlying E=some (.int .u8)) (hT:P.underlying T=some .string) (hn:F.g n=pG cB l) (ho:Gives F o (.string ⟨l.toArray⟩)):Ent.sound K P F (.op (.cv S T) [LF (.gr b)] [.gl b E 1 n] (LF o)):=by
 intro β W vs hs hpre _
 match vs,hs with
 | [v],⟨h1,_⟩ =>
  have hv:v=gv β b:=h1
  obtain ⟨cap,h⟩:=zlK zc9 (by decide) hn (hpre _ (List.mem_cons_self ..))
  refine ⟨.string ⟨l.toArray⟩,?_,(ho β _ W).2 rfl⟩
  show (convert S T v).run P W=_
  rcases h with ⟨h2,_,rfl⟩ | ⟨g,cur,_,h2,hh,_,hok⟩
  ·rw [hv,h2]
   simp [convert,run_underlying hS,run_underlying hE,run_underlying hT,Conv.bytesToString]
   rfl
  ·rw [hv,h2]
   rw [Nat.mul_one] at hok
   exact run_convert_bytes_back W S T E ⟨g,0,none⟩ cap l hS hE hT (zex hh (zcd hok))
 | [],h=>exact h.elim
 | _::_::_,h=>exact h.2.elim
theorem zsM {S T E:TypeId} {b k c:Nat} {ls:List Lf} {ps:List Pred} {l:List UInt8} {o:Lf} (hS:P.underlying S=some (.slice E)) (hE:P.underlying E=some (.int .u8)) (hT:P.underlying T=some .string) (hp:ls.map (Lf.pr F)=ps) (hps:∀vs W D,okl ps vs W D→okl (l.flatMap cB) vs W D) (hlow:ls.all (Lf.low [])=true) (hk:l.length=k) (ho:Gives F o (.string ⟨l.toArray⟩)) :
  Ent.sound K P F (.op (.cv S T) [LF (.s b 0 k c)] [.bx b E ls] (LF o)):=by
 subst hk
 intro β W vs hs hpre _
 match vs,hs with
 | [v],⟨⟨q,hq,e⟩,_⟩ =>
  subst e
  obtain ⟨q',us,hq',hh,hoks,_,_,_⟩:=hpre _ (List.mem_cons_self ..)
  have e:q'=q:=Option.some.inj (hq'.symm.trans hq)
  subst e
  have h1:=hps _ W β.D (by rw [← hp];exact (zce hlow).1 hoks)
  have h2:=zcd h1
  refine ⟨.string ⟨l.toArray⟩,?_,(ho β _ W).2 rfl⟩
  show (convert S T _).run P W=_
  exact run_convert_bytes_back W S T E ⟨q',0,none⟩ c l hS hE hT (zex hh (by rw [h2,List.take_of_length_le (by simp)]))
 | [],h=>exact h.elim
 | _::_::_,h=>exact h.2.elim
end
theorem zij {α:Type} {c:α→List Pred} {v:Value} {W:World} {D:Dat} (h:pV (.slice none 0 0) v W D):pLs c ([]:List α) v W D:=.inl ⟨⟨_,_,h⟩,rfl,rfl⟩
end Go.Proofs.YtjcegdldgjphiaaGreatDoor
namespace Go.Proofs.YtjcegdldgjphiaaGreatDoor
open Go.RowKit Go.Shelf
def bI (x:Int):UInt8:=dg7 x.toNat
theorem zsC {x:Int} (h:0≤x∧x<256):((bI x).toNat:Int)=x:=by
 unfold bI
 rw [zb6 (by omega)];omega
theorem bI_ok {x:Int} (h:0≤x∧x<256):∀vs W D,okl [pV (.int .u8 x)] vs W D→okl (cB (bI x)) vs W D:=by
 intro vs W D h1
 unfold cB
 rw [zsC h];exact h1
def B8:List Int→Prop
 | []=>True
 | x::r=>(0≤x∧x<256)∧B8 r
theorem zn3:∀{l:List Int},B8 l→∀vs W D,okl (l.map fun x=>pV (.int .u8 x)) vs W D→okl ((l.map bI).flatMap cB) vs W D
 | [],_,_,_,_,h=>h
 | x::r,hb,v::vs,W,D,h=>by
  show okl ((bI x::r.map bI).flatMap cB) (v::vs) W D
  rw [List.flatMap_cons]
  refine ⟨?_,zn3 hb.2 vs W D h.2⟩
  show pV (.int .u8 ((bI x).toNat:Int)) v W D
  rw [zsC hb.1];exact h.1
 | _::_,_,[],_,_,h=>h.elim
theorem zeo {o l:List UInt8} {c:Nat} (h:o++encN c=l) (hc:c<128):o=l.dropLast∧(c:Int)=((l.getLast?.getD 0).toNat:Int):=by
 subst h
 rw [qP hc]
 refine ⟨by simp,?_⟩
 rw [List.getLast?_append]
 simp [zb6 (show c<256 by omega)]
theorem wrap8 (c:Nat):IntKind.u8.wrap (c:Int)=((c%256:Nat):Int):=by rw [wu8];omega
theorem fd7 (c:Nat):((c:Int)).fdiv (2 ^ min ((7:Int):Int).toNat IntKind.u64.bits)=((c / 128:Nat):Int):=by
 show ((c:Int)).fdiv 128=_
 rw [Int.fdiv_eq_ediv_of_nonneg _ (by decide)];omega
structure wi_T where
 code:Int
 o:(List UInt8)
def zeh:List Atom:=[.sl 0 (yh 0),.sl 2 (.o (.c (.k (.string ⟨#[]⟩)))),.sl 3 (yh 5004),.sl 4 (.o (.c (.gr 900))),.sl 5 (yh 0),.sl 6 (yh 5000),.sl 7 (yh 5001),.sl 8 (yh 0),.sl 9 (yh 1),.sl 10 (yh 5002),.sl 11 (yh 5003),.gl 900 5 1 1]
def wi_S:LoopS:=⟨3,[.sl 0 (yh 0),.sl 2 (.o (.c (.k (.string ⟨#[]⟩)))),.sl 3 (yh 5003),.sl 4 (.o (.c (.gr 900))),.sl 5 (yh 0),.sl 6 (yh 5000),.sl 7 (yh 5001),.sl 8 (yh 0),.sl 9 (yh 1),.sl 10 (yh 5002),.sl 11 (yh 5003),.gl 900 5 1 0],(.x 0),[.sl 0 (yh 0),.sl 2 (.o (.c (.k (.string ⟨#[]⟩)))),.sl 3 (yh 5004),.sl 4 (.o (.c (.gr 900))),.sl 5 (yh 0),.sl 6 (yh 5000),.sl 7 (yh 5001),.sl 8 (yh 0),.sl 9 (yh 1),.sl 10 (yh 5002),.sl 11 (yh 5003),.gl 900 5 1 1]⟩
abbrev wi_D1:List (Nat×Ent):=(1005001,.bin .geq 72 (yh 5004) (LF (.k (.int .u64 128))) (yh 2))::[]
abbrev wi_D2:List (Nat×Ent):=(10002,.fb 2 true)::(1005004,.op (.cv 72 5) [yh 5004] [] (yh 3))::(1005005,.bin .or 5 (yh 3) (LF (.k (.int .u8 128))) (yh 4))::(1005007,.app 5 1 900 1 2 (.o (.c (.s 5006 0 1 1))) [.bx 5006 5 [.h 4]] false)::(1005010,.bin .shr 72 (yh 5004) (LF (.k (.int .u64 7))) (yh 5005))::wi_D1
abbrev wi_D3:List (Nat×Ent):=(10002,.fb 2 false)::wi_D1
theorem wi_ok {w0:World} (n:Int) (v1:Int) (v2:Int) (v3:Int) (v4:Int) (v5:Int) (c2:Int) (o2:(List UInt8)) {F:Fact} (u0:F.c 0=pI n) (u1:F.c 1=pI v3) (u5000:F.c 5000=pV (.int .u64 v1)) (u5001:F.c 5001=pV (.int .u64 v2)) (u5002:F.c 5002=pV (.int .u64 v4)) (u5003:F.c 5003=pV (.int .u64 v5)) (u5004:F.c 5004=pV (.int .u64 c2)) (ug0:F.g 0=pG cB ([]:List UInt8)) (ug1:F.g 1=pG cB o2) (R:Frm) (hR:R.pm=⟨ntOf Tryz.prog 12,[],[]⟩) (hn:InI n) (hz:v5=(zig n:Int)) (hO:c2=(((encI n).getLast?.getD 0).toNat:Int)∧o2=(encI n).dropLast):zj (KN w0) Tryz.prog F R wi_S (lp Tryz.prog 12 0):=by
 refine zG (T:=wi_T) (fun t=>FL [pI n,pI v3] [pG cB ([]:List UInt8),pG cB t.o] [(5000,pV (.int .u64 v1)),(5001,pV (.int .u64 v2)),(5002,pV (.int .u64 v4)),(5003,pV (.int .u64 v5)),(5004,pV (.int .u64 t.code))]) (fun ⟨code,o⟩=>∃c:Nat,code=(c:Int)∧c<18446744073709551616∧o++encN c=encI n) (fun ⟨code,o⟩=>code.toNat) { code:=v5,o:=([]:List UInt8) } zeh ⟨zig n,hz,zjP hn,rfl⟩ (LZ ⟨z_c (LU u0),z_c yy,z_c (LU u5003),z_c yy,z_c (LU u0),z_c (LU u5000),z_c (LU u5001),z_c (LU u0),z_c (LU u1),z_c (LU u5002),z_c (LU u5003),z_gq ug0 rfl,trivial⟩) rfl fun t hJ=>?_
 obtain ⟨code,o⟩:=t
 dsimp only at hJ
 obtain ⟨c,hc,hlt,ho⟩:=hJ
 obtain ⟨v501,e501⟩:=LX (decide (code ≥ (128:Int)))
 let A1:List Pred→List Pred:=fun t=>pI n::pI v3::pB v501::t
 have f1:LA (KN w0) A1:=fun t h=>⟨zc,zc,zc,h⟩
 let G1:List LPred→List LPred:=fun t=>pG cB ([]:List UInt8)::pG cB o::t
 have g1:LG (KN w0) G1:=fun t h=>⟨(zy (zE rfl)),(zy (zE rfl)),h⟩
 let Q1:List (Nat×Pred)→List (Nat×Pred):=fun t=>(5000,pV (.int .u64 v1))::(5001,pV (.int .u64 v2))::(5002,pV (.int .u64 v4))::(5003,pV (.int .u64 v5))::(5004,pV (.int .u64 code))::t
 have fq1:LQ (KN w0) Q1:=fun t h=>⟨⟨rfl,zu⟩,⟨rfl,zu⟩,⟨rfl,zu⟩,⟨rfl,zu⟩,⟨rfl,zu⟩,h⟩
 have T1:∀t u qq,Sound (KN w0) Tryz.prog (FQ (A1 t) (G1 u) (Q1 qq)) wi_D1:=fun t u qq=>⟨e_bin (za rfl) ze (za rfl) (r_cmp (LO e501)),trivial⟩
 cases h502:v501 with
 | true =>
  obtain ⟨v503,e503⟩:=LX (IntKind.u8.wrap code)
  obtain ⟨v504,e504⟩:=LX (IntKind.u8.wrap (BitVec.ofInt IntKind.u8.bits v503 ||| BitVec.ofInt IntKind.u8.bits (128:Int)).toNat)
  have s505:0≤v504∧v504<256:=by (first | (rw [← e504,← e503,hc,or8];omega) | (have h1:=congrArg List.length ho;rw [List.length_append] at h1;have h2:=zv hn;omega))
  obtain ⟨v506,e506⟩:=LX (o++[bI v504])
  have s507:(o.length+1)*1≤1099511627776:=by (first | (rw [← e504,← e503,hc,or8];omega) | (have h1:=congrArg List.length ho;rw [List.length_append] at h1;have h2:=zv hn;omega))
  obtain ⟨v508,e508⟩:=LX ((code:Int).fdiv (2 ^ min ((7:Int):Int).toNat IntKind.u64.bits))
  let A2:=fun t=>A1 (pV (.int .u8 v503)::pV (.int .u8 v504)::t)
  have f2:LA (KN w0) A2:=fun t h=>f1 _ ⟨zc,zc,h⟩
  let G2:=fun t=>G1 (pG cB v506::t)
  have g2:LG (KN w0) G2:=fun t h=>g1 _ ⟨(zy (zE rfl)),h⟩
  let Q2:=fun t=>Q1 ((5005,pV (.int .u64 v508))::t)
  have fq2:LQ (KN w0) Q2:=fun t h=>fq1 _ ⟨⟨rfl,zu⟩,h⟩
  have T2:∀t u qq,Sound (KN w0) Tryz.prog (FQ (A2 t) (G2 u) (Q2 qq)) wi_D2:=fun t u qq=>⟨e_fbv h502,e_op1 (za rfl) (za rfl) (fun W=>by rw [← e503];exact r_cvi (by kernel_rfl) (by kernel_rfl) W),e_bin (za rfl) ze (za rfl) (zal (LO e504)),zfR (c:=cB) (x:=bI v504) (zE rfl) zc9 (.inr ⟨rfl,rfl⟩) (by rw [e506];rfl) rfl (bI_ok s505) rfl s507,e_bin (za rfl) ze (za rfl) (fun W X Y=>by rw [← e508];exact r_shr (by decide) W X Y),T1 _ _ _⟩
  refine .inr ⟨⟨v508,v506⟩,?_,?_,goes (x:=.n) (y:=.n) (Fb:=FQ (A2 []) (G2 []) (Q2 [])) (stb:=zeh) (tl:=[.sl 0 (yh 0),.sl 2 (.o (.c (.k (.string ⟨#[]⟩)))),.sl 3 (yh 5005),.sl 4 (.o (.c (.gr 900))),.sl 5 (yh 0),.sl 6 (yh 5000),.sl 7 (yh 5001),.sl 8 (yh 0),.sl 9 (yh 1),.sl 10 (yh 5002),.sl 11 (yh 5003),.gl 900 5 1 2]) (C:=wi_D2) (H:=.no) 5000 (LZ ⟨z_c yy,z_c yy,z_c yy,z_c yy,z_c yy,z_c yy,z_c yy,z_c yy,z_c yy,z_c yy,z_c yy,z_gl (fun _ _ _ h=>h),trivial⟩) (zws (f2 [] trivial) (g2 [] trivial) (fq2 [] trivial)) (T2 [] [] []) mixed hR trivial (fun _ _ _ hs=>by cases hs) (by kernel_rfl) rfl (LZ ⟨z_c yy,z_c yy,z_c (fun β v W h=>(zd rfl β v W).2 h),z_c yy,z_c yy,z_c yy,z_c yy,z_c yy,z_c yy,z_c yy,z_c yy,z_gq rfl rfl,trivial⟩)⟩
  all_goals (have hb:=LD e501 h502;subst hc;rw [fd7] at e508;subst e508)
  ·show (((c / 128:Nat):Int)).toNat<((c:Int)).toNat
   omega
  ·refine ⟨c / 128,rfl,by omega,?_⟩
   rw [zbd (by omega)] at ho
   rw [← e506,← e504,← e503,or8,List.append_assoc,← ho];rfl
 | false =>
  have T3:∀t u qq,Sound (KN w0) Tryz.prog (FQ (A1 t) (G1 u) (Q1 qq)) wi_D3:=fun t u qq=>⟨e_fbv h502,T1 _ _ _⟩
  have hq:((code)=c2)∧((o)=o2)∧True:=by
   refine ⟨?_,?_,trivial⟩
   all_goals (have hb:=LE e501 h502;subst hc;obtain ⟨h1,h2⟩:=zeo ho (by omega))
   ·rw [hO.1];exact h2
   ·rw [hO.2];exact h1
  obtain ⟨q0,q1,-⟩:=hq
  exact .inl (goes (x:=(.x 0)) (y:=(.x 0)) (Fb:=FQ (A1 []) (G1 []) (Q1 [])) (stb:=zeh) (tl:=[.sl 0 (yh 0),.sl 2 (.o (.c (.k (.string ⟨#[]⟩)))),.sl 3 (yh 5004),.sl 4 (.o (.c (.gr 900))),.sl 5 (yh 0),.sl 6 (yh 5000),.sl 7 (yh 5001),.sl 8 (yh 0),.sl 9 (yh 1),.sl 10 (yh 5002),.sl 11 (yh 5003),.gl 900 5 1 1]) (C:=wi_D3) (H:=.no) 5000 (LZ ⟨z_c yy,z_c yy,z_c yy,z_c yy,z_c yy,z_c yy,z_c yy,z_c yy,z_c yy,z_c yy,z_c yy,z_gl (fun _ _ _ h=>h),trivial⟩) (zws (f1 [] trivial) (g1 [] trivial) (fq1 [] trivial)) (T3 [] [] []) mixed hR trivial (fun _ _ _ hs=>by cases hs) (by kernel_rfl) rfl (LZ ⟨z_c (LV u0),z_c yy,z_c (fun β v W h=>(zd u5004 β v W).2 (by rw [← q0];exact h)),z_c yy,z_c (LV u0),z_c (LV u5000),z_c (LV u5001),z_c (LV u0),z_c (LV u1),z_c (LV u5002),z_c (LV u5003),z_gq rfl (by rw [ug1,← q1];rfl),trivial⟩))
theorem zia {n:Int}:∃c:Nat,c<128∧(encI n).dropLast++encN c=encI n:=by
 have key:∀c:Nat,∃d:Nat,d<128∧(encN c).dropLast++encN d=encN c:=by
  intro c
  induction c using Nat.strongRecOn with
  | _ c ih =>
   by_cases h:c<128
   ·exact ⟨c,h,by rw [qP h];rfl⟩
   ·obtain ⟨d,hd,e⟩:=ih (c / 128) (by omega)
    refine ⟨d,hd,?_⟩
    rw [zbd h,List.dropLast_cons_of_ne_nil (zkd _),List.cons_append,e]
 exact key _
abbrev zAb:List (Nat×Ent):=(1000002,.op (.cv 3 72) [yh 0] [] (yh 5000))::(1000003,.bin .shl 72 (yh 5000) (LF (.k (.int .u64 1))) (yh 5001))::(1000005,.bin .shr 3 (yh 0) (LF (.k (.int .u64 63))) (yh 1))::(1000006,.op (.cv 3 72) [yh 1] [] (yh 5002))::(1000007,.bin .xor 72 (yh 5001) (yh 5002) (yh 5003))::(1001012,.op (.cv 72 5) [yh 5004] [] (yh 2))::(1001014,.app 5 1 900 1 2 (.o (.c (.s 1013 0 1 1))) [.bx 1013 5 [.h 2]] false)::(1001015,.op (.cv 43 9) [LF (.gr 900)] [.gl 900 5 1 2] (yh 3))::[]
theorem w_int {w0:World} (n:Int) (r:List UInt8) (hr:encI n=r) (hn:InI n):Fun (KN w0) Tryz.prog 12 [.o (.c (pI n))] (.o (.c (pS r))):=by
 have hz:=zsA hn
 obtain ⟨v1,e1⟩:=LX (IntKind.u64.wrap n)
 obtain ⟨v2,e2⟩:=LX (IntKind.u64.wrap (v1*2 ^ min ((1:Int):Int).toNat IntKind.u64.bits))
 obtain ⟨v3,e3⟩:=LX ((n:Int).fdiv (2 ^ min ((63:Int):Int).toNat IntKind.i64.bits))
 obtain ⟨v4,e4⟩:=LX (IntKind.u64.wrap v3)
 obtain ⟨v5,e5⟩:=LX (IntKind.u64.wrap (BitVec.ofInt IntKind.u64.bits v2 ^^^ BitVec.ofInt IntKind.u64.bits v4).toNat)
 obtain ⟨c2,o2,hO_wi⟩:∃(c2:Int) (o2:(List UInt8)),c2=(((encI n).getLast?.getD 0).toNat:Int)∧o2=(encI n).dropLast:=⟨_,_,rfl,rfl⟩
 obtain ⟨v6,e6⟩:=LX (IntKind.u8.wrap c2)
 have s7:0≤v6∧v6<256:=by (first | (rw [← e6,hO_wi.1,wrap8];omega) | (have h1:=zv hn;have h2:(encI n).dropLast.length=(encI n).length - 1:=(by simp);rw [← hO_wi.2] at h2;omega))
 obtain ⟨v8,e8⟩:=LX (o2++[bI v6])
 have s9:(o2.length+1)*1≤1099511627776:=by (first | (rw [← e6,hO_wi.1,wrap8];omega) | (have h1:=zv hn;have h2:(encI n).dropLast.length=(encI n).length - 1:=(by simp);rw [← hO_wi.2] at h2;omega))
 obtain ⟨v10,e10⟩:=LX (v8)
 let A1:List Pred→List Pred:=fun t=>pI n::pI v3::pV (.int .u8 v6)::pS v10::t
 have f1:LA (KN w0) A1:=fun t h=>⟨zc,zc,zc,zc,h⟩
 let G1:List LPred→List LPred:=fun t=>pG cB ([]:List UInt8)::pG cB o2::pG cB v8::t
 have g1:LG (KN w0) G1:=fun t h=>⟨(zy (zE rfl)),(zy (zE rfl)),(zy (zE rfl)),h⟩
 let Q1:List (Nat×Pred)→List (Nat×Pred):=fun t=>(5000,pV (.int .u64 v1))::(5001,pV (.int .u64 v2))::(5002,pV (.int .u64 v4))::(5003,pV (.int .u64 v5))::(5004,pV (.int .u64 c2))::t
 have fq1:LQ (KN w0) Q1:=fun t h=>⟨⟨rfl,zu⟩,⟨rfl,zu⟩,⟨rfl,zu⟩,⟨rfl,zu⟩,⟨rfl,zu⟩,h⟩
 have T1:∀t u qq,Sound (KN w0) Tryz.prog (FQ (A1 t) (G1 u) (Q1 qq)) zAb:=fun t u qq=>⟨e_op1 (za rfl) (za rfl) (fun W=>by rw [← e1];exact r_cvi (by kernel_rfl) (by kernel_rfl) W),e_bin (za rfl) ze (za rfl) (fun W X Y=>by rw [← e2];exact r_shl (by decide) W X Y),e_bin (za rfl) ze (za rfl) (fun W X Y=>by rw [← e3];exact r_shr (by decide) W X Y),e_op1 (za rfl) (za rfl) (fun W=>by rw [← e4];exact r_cvi (by kernel_rfl) (by kernel_rfl) W),e_bin (za rfl) (za rfl) (za rfl) (zal (LO e5)),e_op1 (za rfl) (za rfl) (fun W=>by rw [← e6];exact r_cvi (by kernel_rfl) (by kernel_rfl) W),zfR (c:=cB) (x:=bI v6) (zE rfl) zc9 (.inr ⟨rfl,rfl⟩) (by rw [e8];rfl) rfl (bI_ok s7) rfl s9,zvi (E:=5) (l:=v8) (by kernel_rfl) (by kernel_rfl) (by kernel_rfl) rfl (by rw [e10];exact za rfl),trivial⟩
 have L_wi:∀R:Frm,R.pm=⟨ntOf Tryz.prog 12,[],[]⟩→zj (KN w0) Tryz.prog (FQ (A1 []) (G1 []) (Q1 [])) R wi_S (lp Tryz.prog 12 0):=fun R hR=>wi_ok n v1 v2 v3 v4 v5  c2 o2 rfl rfl rfl rfl rfl rfl rfl rfl rfl R hR hn (by rw [← e5,← e4,← e3,← e2,← e1];exact hz) hO_wi
 refine Fun.fin (r:=.o (.c (pS v10))) (zq (zN (F:=FQ (A1 []) (G1 []) (Q1 [])) (C:=zAb) (k:=⟨12,[yh 0],[],yh 3,[]⟩) ⟨[wi_S],[⟨2,[.sl 4 (.o (.c (.k (.slice none 0 0)))),.gn 900],[.sl 4 (.o (.c (.gr 900))),.gl 900 5 1 0],[]⟩],0⟩ [900] 0 (zws (f1 [] trivial) (g1 [] trivial) (fq1 [] trivial)) (T1 [] [] []) mixed ⟨zaW (c:=cB) rfl,trivial⟩ (fun R hR p hp s hs=>by
  have hl:zD (zR Tryz.prog 12)=[(3,lp Tryz.prog 12 0)]:=by kernel_rfl
  rw [hl] at hp
  simp only [List.mem_cons,List.not_mem_nil,or_false] at hp
  rcases hp with rfl
  ·have e:s=wi_S:=(Option.some.inj hs).symm
   subst e;exact L_wi R hR) (by kernel_rfl))) (fun v W D h=>?_)
 have r0:r=v10:=by
  obtain ⟨c,hc,e⟩:=zia (n:=n)
  have h2:=(zeo e hc).2
  rw [← hr,← e10,← e8,← e6,hO_wi.1,hO_wi.2,← h2]
  rw [qP hc] at e
  rw [wrap8,Nat.mod_eq_of_lt (by omega)]
  exact e.symm
 rw [r0];exact h
end Go.Proofs.YtjcegdldgjphiaaGreatDoor
namespace Go.Proofs.YtjcegdldgjphiaaGreatDoor
open Go.RowKit Go.Shelf
theorem wri {n:Int} (h:-9223372036854775808≤n∧n<9223372036854775808):IntKind.i64.wrap n=n:=by rw [IntKind.wrap_i64];omega
theorem tm7 (c:Nat):((c:Int)).tmod 128=((c%128:Nat):Int):=rfl
theorem td7 (c:Nat):((c:Int)).tdiv 128=((c / 128:Nat):Int):=rfl
def TxW (s:List UInt8):Prop:=s.length≤9223372036854775700
def InP (p:Pl):Prop:=InV p.1∧InI p.2
theorem zbP {v:V3} (h:InV v):(encV v).length≤30:=by
 unfold encV
 have h1:=zv h.1;have h2:=zv h.2.1;have h3:=zv h.2.2
 simp only [List.length_append];omega
theorem zen {v:Pl} (h:InP v):(encP v).length≤40:=by
 unfold encP
 have h1:=zbP h.1;have h2:=zv h.2
 simp only [List.length_append];omega
abbrev zyC:List (Nat×Ent):=(1000002,.bin .geq 3 (yh 0) (LF (.k (.int .i64 0))) (yh 1))::[]
abbrev zzF:List (Nat×Ent):=(10001,.fb 1 true)::(1000004,.op (.cv 3 72) [yh 0] [] (yh 5000))::(1000005,.bin .mul 72 (LF (.k (.int .u64 2))) (yh 5000) (yh 5001))::zyC
abbrev zzG:List (Nat×Ent):=(10001,.fb 1 false)::(1000004,.bin .add 3 (yh 0) (LF (.k (.int .i64 1))) (yh 2))::(1000005,.un .neg (yh 2) (yh 3))::(1000006,.op (.cv 3 72) [yh 3] [] (yh 5000))::(1000007,.bin .mul 72 (LF (.k (.int .u64 2))) (yh 5000) (yh 5001))::(1000008,.bin .add 72 (yh 5001) (LF (.k (.int .u64 1))) (yh 5002))::zyC
theorem zwe {w0:World} (n r:Int) (hr:(zig n:Int)=r) (hn:InI n):Fun (KN w0) Tryz.prog 38 [.o (.c (pI n))] (.o (.c (pV (.int .u64 r)))):=by
 obtain ⟨v1,e1⟩:=LX (decide (n ≥ (0:Int)))
 let A1:List Pred→List Pred:=fun t=>pI n::pB v1::t
 have f1:LA (KN w0) A1:=fun t h=>⟨zc,zc,h⟩
 let Q1:List (Nat×Pred)→List (Nat×Pred):=fun t=>t
 have fq1:LQ (KN w0) Q1:=fun t h=>h
 have T1:LI (KN w0) Tryz.prog A1 Q1 zyC:=fun t qq=>⟨e_bin (za rfl) ze (za rfl) (r_cmp (LO e1)),trivial⟩
 cases h2:v1 with
 | true =>
  obtain ⟨v3,e3⟩:=LX (IntKind.u64.wrap n)
  obtain ⟨v4,e4⟩:=LX (IntKind.u64.wrap ((2:Int)*v3))
  let Q2:=fun t=>Q1 ((5000,pV (.int .u64 v3))::(5001,pV (.int .u64 v4))::t)
  have fq2:LQ (KN w0) Q2:=fun t h=>fq1 _ ⟨⟨rfl,zu⟩,⟨rfl,zu⟩,h⟩
  have T2:LI (KN w0) Tryz.prog A1 Q2 zzF:=fun t qq=>⟨e_fbv h2,e_op1 (za rfl) (za rfl) (fun W=>by rw [← e3];exact r_cvi (by kernel_rfl) (by kernel_rfl) W),e_bin ze (za rfl) (za rfl) (r_ar (LO e4)),T1 _ _⟩
  refine Fun.fin (r:=.o (.c (pV (.int .u64 v4)))) (zq (zr (F:=FQ (A1 []) [] (Q2 [])) (C:=zzF) (k:=⟨38,[yh 0],[],yh 5001,[]⟩) 0 (zws (f1 [] trivial) trivial (fq2 [] trivial)) (T2 [] []) mixed (by kernel_rfl))) (fun v W D h=>?_)
  have r0:r=v4:=by
   have h1:=LD e1 h2
   rw [← hr,← e4,← e3,wu64,wu64];unfold zig;unfold InI at hn;rw [if_pos (by omega)];omega
  rw [r0];exact h
 | false =>
  obtain ⟨v3,e3⟩:=LX (IntKind.i64.wrap (n+(1:Int)))
  obtain ⟨v4,e4⟩:=LX (IntKind.i64.wrap (0 - v3))
  obtain ⟨v5,e5⟩:=LX (IntKind.u64.wrap v4)
  obtain ⟨v6,e6⟩:=LX (IntKind.u64.wrap ((2:Int)*v5))
  obtain ⟨v7,e7⟩:=LX (IntKind.u64.wrap (v6+(1:Int)))
  let A3:=fun t=>A1 (pI v3::pI v4::t)
  have f3:LA (KN w0) A3:=fun t h=>f1 _ ⟨zc,zc,h⟩
  let Q3:=fun t=>Q1 ((5000,pV (.int .u64 v5))::(5001,pV (.int .u64 v6))::(5002,pV (.int .u64 v7))::t)
  have fq3:LQ (KN w0) Q3:=fun t h=>fq1 _ ⟨⟨rfl,zu⟩,⟨rfl,zu⟩,⟨rfl,zu⟩,h⟩
  have T3:LI (KN w0) Tryz.prog A3 Q3 zzG:=fun t qq=>⟨e_fbv h2,e_bin (za rfl) ze (za rfl) (r_ar (LO e3)),e_un (za rfl) (za rfl) (fun W=>by rw [← e4];exact r_neg W),e_op1 (za rfl) (za rfl) (fun W=>by rw [← e5];exact r_cvi (by kernel_rfl) (by kernel_rfl) W),e_bin ze (za rfl) (za rfl) (r_ar (LO e6)),e_bin (za rfl) ze (za rfl) (r_ar (LO e7)),T1 _ _⟩
  refine Fun.fin (r:=.o (.c (pV (.int .u64 v7)))) (zq (zr (F:=FQ (A3 []) [] (Q3 [])) (C:=zzG) (k:=⟨38,[yh 0],[],yh 5002,[]⟩) 0 (zws (f3 [] trivial) trivial (fq3 [] trivial)) (T3 [] []) mixed (by kernel_rfl))) (fun v W D h=>?_)
  have r0:r=v7:=by
   have h1:=LE e1 h2
   unfold InI at hn
   rw [wri (by omega)] at e3
   subst e3
   rw [wri (by omega)] at e4
   subst e4
   rw [← hr,← e7,← e6,← e5,wu64,wu64,wu64];unfold zig;rw [if_neg (by omega)];omega
  rw [r0];exact h
structure ri_T where
 o:(List UInt8)
 code:Int
def zeb:List Atom:=[.sl 0 (yh 0),.sl 2 (.o (.c (.k (.string ⟨#[]⟩)))),.sl 3 (yh 1),.sl 4 (yh 5001),.sl 5 (yh 0),.sl 6 (yh 5000)]
def ri_S:LoopS:=⟨3,[.sl 0 (yh 0),.sl 2 (.o (.c (.k (.string ⟨#[]⟩)))),.sl 3 (.o (.c (.k (.string ⟨#[]⟩)))),.sl 4 (yh 5000),.sl 5 (yh 0),.sl 6 (yh 5000)],(.x 0),[.sl 0 (yh 0),.sl 2 (.o (.c (.k (.string ⟨#[]⟩)))),.sl 3 (yh 1),.sl 4 (yh 5001),.sl 5 (yh 0),.sl 6 (yh 5000)]⟩
abbrev ri_D1:List (Nat×Ent):=(1005001,.bin .geq 72 (yh 5001) (LF (.k (.int .u64 128))) (yh 2))::[]
abbrev ri_D2:List (Nat×Ent):=(10002,.fb 2 true)::(1005004,.bin .rem 72 (yh 5001) (LF (.k (.int .u64 128))) (yh 5002))::(1005005,.bin .add 72 (yh 5002) (LF (.k (.int .u64 128))) (yh 5003))::(1005006,.op (.cv 72 5) [yh 5003] [] (yh 3))::(1005008,.op (.cv 43 9) [LF (.s 5007 0 1 1)] [.bx 5007 5 [.h 3]] (yh 4))::(1005009,.bin .add 9 (yh 1) (yh 4) (yh 5))::(1005012,.bin .quo 72 (yh 5001) (LF (.k (.int .u64 128))) (yh 5004))::ri_D1
abbrev ri_D3:List (Nat×Ent):=(10002,.fb 2 false)::ri_D1
theorem ri_ok {w0:World} (n:Int) (v1:Int) (o2:(List UInt8)) (c2:Int) {F:Fact} (u0:F.c 0=pI n) (u1:F.c 1=pS o2) (u5000:F.c 5000=pV (.int .u64 v1)) (u5001:F.c 5001=pV (.int .u64 c2)) (R:Frm) (hR:R.pm=⟨ntOf Tryz.prog 13,[],[]⟩) (hn:InI n) (hz:v1=(zig n:Int)) (hO:c2=(((encI n).getLast?.getD 0).toNat:Int)∧o2=(encI n).dropLast):zj (KN w0) Tryz.prog F R ri_S (lp Tryz.prog 13 0):=by
 refine zG (T:=ri_T) (fun t=>FL [pI n,pS t.o] [] [(5000,pV (.int .u64 v1)),(5001,pV (.int .u64 t.code))]) (fun ⟨o,code⟩=>∃c:Nat,code=(c:Int)∧c<18446744073709551616∧o++encN c=encI n) (fun ⟨o,code⟩=>code.toNat) { o:=[],code:=v1 } zeb ⟨zig n,hz,zjP hn,rfl⟩ (LZ ⟨z_c (LU u0),z_c yy,z_c yy,z_c (LU u5000),z_c (LU u0),z_c (LU u5000),trivial⟩) rfl fun t hJ=>?_
 obtain ⟨o,code⟩:=t
 dsimp only at hJ
 obtain ⟨c,hc,hlt,ho⟩:=hJ
 obtain ⟨v501,e501⟩:=LX (decide (code ≥ (128:Int)))
 let A1:List Pred→List Pred:=fun t=>pI n::pS o::pB v501::t
 have f1:LA (KN w0) A1:=fun t h=>⟨zc,zc,zc,h⟩
 let Q1:List (Nat×Pred)→List (Nat×Pred):=fun t=>(5000,pV (.int .u64 v1))::(5001,pV (.int .u64 code))::t
 have fq1:LQ (KN w0) Q1:=fun t h=>⟨⟨rfl,zu⟩,⟨rfl,zu⟩,h⟩
 have T1:LI (KN w0) Tryz.prog A1 Q1 ri_D1:=fun t qq=>⟨e_bin (za rfl) ze (za rfl) (r_cmp (LO e501)),trivial⟩
 cases h502:v501 with
 | true =>
  obtain ⟨v503,e503⟩:=LX ((code:Int).tmod (128:Int))
  obtain ⟨v504,e504⟩:=LX (IntKind.u64.wrap (v503+(128:Int)))
  obtain ⟨v505,e505⟩:=LX (IntKind.u8.wrap v504)
  have s506:0≤v505∧v505<256:=by (first | (subst hc;rw [← e505,← e504,← e503,tm7,wu8,wu64];omega) | (have h1:=congrArg List.length ho;rw [List.length_append] at h1;have h2:=zv hn;rw [← e507];show ((o.length+1:Nat):Int)≤_;omega))
  obtain ⟨v507,e507⟩:=LX ([bI v505])
  obtain ⟨v508,e508⟩:=LX (o++v507)
  have s509:(((o:List UInt8).length+(v507:List UInt8).length:Nat):Int)≤9223372036854775807:=by (first | (subst hc;rw [← e505,← e504,← e503,tm7,wu8,wu64];omega) | (have h1:=congrArg List.length ho;rw [List.length_append] at h1;have h2:=zv hn;rw [← e507];show ((o.length+1:Nat):Int)≤_;omega))
  obtain ⟨v510,e510⟩:=LX (IntKind.u64.wrap ((code:Int).tdiv (128:Int)))
  let A2:=fun t=>A1 (pV (.int .u8 v505)::pS v507::pS v508::t)
  have f2:LA (KN w0) A2:=fun t h=>f1 _ ⟨zc,zc,zc,h⟩
  let Q2:=fun t=>Q1 ((5002,pV (.int .u64 v503))::(5003,pV (.int .u64 v504))::(5004,pV (.int .u64 v510))::t)
  have fq2:LQ (KN w0) Q2:=fun t h=>fq1 _ ⟨⟨rfl,zu⟩,⟨rfl,zu⟩,⟨rfl,zu⟩,h⟩
  have T2:LI (KN w0) Tryz.prog A2 Q2 ri_D2:=fun t qq=>⟨e_fbv h502,e_bin (za rfl) ze (za rfl) (r_ar ((qB (by decide)).trans (LO e503))),e_bin (za rfl) ze (za rfl) (r_ar (LO e504)),e_op1 (za rfl) (za rfl) (fun W=>by rw [← e505];exact r_cvi (by kernel_rfl) (by kernel_rfl) W),zsM (E:=5) (ps:=[pV (.int .u8 v505)]) (l:=[bI v505]) (by kernel_rfl) (by kernel_rfl) (by kernel_rfl) rfl (zn3 (l:=[v505]) ⟨s506,trivial⟩) rfl rfl (by rw [e507];exact za rfl),e_bin (za rfl) (za rfl) (za rfl) (fun W X Y=>by rw [← e508];exact r_cat s509 W X Y),e_bin (za rfl) ze (za rfl) (r_ar ((zhS (by decide)).trans (LO e510))),T1 _ _⟩
  refine .inr ⟨⟨v508,v510⟩,?_,?_,goes (x:=.n) (y:=.n) (Fb:=FQ (A2 []) [] (Q2 [])) (stb:=zeb) (tl:=[.sl 0 (yh 0),.sl 2 (.o (.c (.k (.string ⟨#[]⟩)))),.sl 3 (yh 5),.sl 4 (yh 5004),.sl 5 (yh 0),.sl 6 (yh 5000)]) (C:=ri_D2) (H:=.no) 5000 (LZ ⟨z_c yy,z_c yy,z_c yy,z_c yy,z_c yy,z_c yy,trivial⟩) (zws (f2 [] trivial) trivial (fq2 [] trivial)) (T2 [] []) mixed hR trivial (fun _ _ _ hs=>by cases hs) (by kernel_rfl) rfl (LZ ⟨z_c yy,z_c yy,z_c (fun β v W h=>(zd rfl β v W).2 h),z_c (fun β v W h=>(zd rfl β v W).2 h),z_c yy,z_c yy,trivial⟩)⟩
  all_goals (have hb:=LD e501 h502;subst hc;rw [td7,wu64] at e510;rw [tm7] at e503;subst e503;rw [wu64] at e504;subst e504;rw [wu8] at e505;subst e510)
  ·show ((((c / 128:Nat):Int))%18446744073709551616).toNat<((c:Int)).toNat
   omega
  ·refine ⟨c / 128,by omega,by omega,?_⟩
   rw [zbd (by omega)] at ho
   have hx:v505=((c%128+128:Nat):Int):=by omega
   rw [← e508,← e507,hx,List.append_assoc,← ho];rfl
 | false =>
  have T3:LI (KN w0) Tryz.prog A1 Q1 ri_D3:=fun t qq=>⟨e_fbv h502,T1 _ _⟩
  have hq:((o)=o2)∧((code)=c2)∧True:=by
   refine ⟨?_,?_,trivial⟩
   all_goals (have hb:=LE e501 h502;subst hc;obtain ⟨h1,h2⟩:=zeo ho (by omega))
   ·rw [hO.2];exact h1
   ·rw [hO.1];exact h2
  obtain ⟨q0,q1,-⟩:=hq
  exact .inl (goes (x:=(.x 0)) (y:=(.x 0)) (Fb:=FQ (A1 []) [] (Q1 [])) (stb:=zeb) (tl:=[.sl 0 (yh 0),.sl 2 (.o (.c (.k (.string ⟨#[]⟩)))),.sl 3 (yh 1),.sl 4 (yh 5001),.sl 5 (yh 0),.sl 6 (yh 5000)]) (C:=ri_D3) (H:=.no) 5000 (LZ ⟨z_c yy,z_c yy,z_c yy,z_c yy,z_c yy,z_c yy,trivial⟩) (zws (f1 [] trivial) trivial (fq1 [] trivial)) (T3 [] []) mixed hR trivial (fun _ _ _ hs=>by cases hs) (by kernel_rfl) rfl (LZ ⟨z_c (LV u0),z_c yy,z_c (fun β v W h=>(zd u1 β v W).2 (by rw [← q0];exact h)),z_c (fun β v W h=>(zd u5001 β v W).2 (by rw [← q1];exact h)),z_c (LV u0),z_c (LV u5000),trivial⟩))
abbrev zzQ:List (Nat×Ent):=(1000003,.call ⟨38,[yh 0],[],yh 5000,[]⟩)::(1001007,.op (.cv 72 5) [yh 5001] [] (yh 2))::(1001009,.op (.cv 43 9) [LF (.s 1008 0 1 1)] [.bx 1008 5 [.h 2]] (yh 3))::(1001010,.bin .add 9 (yh 1) (yh 3) (yh 4))::[]
theorem zbH {w0:World} (n:Int) (r:List UInt8) (hr:encI n=r) (hn:InI n):Fun (KN w0) Tryz.prog 13 [.o (.c (pI n))] (.o (.c (pS r))):=by
 obtain ⟨v1,e1⟩:=LX ((zig n:Int))
 have s2:InI n:=by (first | exact hn | (rw [← e3,hO_ri.1,wrap8];omega) | (have h1:=zv hn;have h2:(encI n).dropLast.length=(encI n).length - 1:=(by simp);rw [← hO_ri.2] at h2;rw [← e5];show ((o2.length+1:Nat):Int)≤_;omega))
 obtain ⟨o2,c2,hO_ri⟩:∃(o2:(List UInt8)) (c2:Int),c2=(((encI n).getLast?.getD 0).toNat:Int)∧o2=(encI n).dropLast:=⟨_,_,rfl,rfl⟩
 obtain ⟨v3,e3⟩:=LX (IntKind.u8.wrap c2)
 have s4:0≤v3∧v3<256:=by (first | exact hn | (rw [← e3,hO_ri.1,wrap8];omega) | (have h1:=zv hn;have h2:(encI n).dropLast.length=(encI n).length - 1:=(by simp);rw [← hO_ri.2] at h2;rw [← e5];show ((o2.length+1:Nat):Int)≤_;omega))
 obtain ⟨v5,e5⟩:=LX ([bI v3])
 obtain ⟨v6,e6⟩:=LX (o2++v5)
 have s7:(((o2:List UInt8).length+(v5:List UInt8).length:Nat):Int)≤9223372036854775807:=by (first | exact hn | (rw [← e3,hO_ri.1,wrap8];omega) | (have h1:=zv hn;have h2:(encI n).dropLast.length=(encI n).length - 1:=(by simp);rw [← hO_ri.2] at h2;rw [← e5];show ((o2.length+1:Nat):Int)≤_;omega))
 let A1:List Pred→List Pred:=fun t=>pI n::pS o2::pV (.int .u8 v3)::pS v5::pS v6::t
 have f1:LA (KN w0) A1:=fun t h=>⟨zc,zc,zc,zc,zc,h⟩
 let Q1:List (Nat×Pred)→List (Nat×Pred):=fun t=>(5000,pV (.int .u64 v1))::(5001,pV (.int .u64 c2))::t
 have fq1:LQ (KN w0) Q1:=fun t h=>⟨⟨rfl,zu⟩,⟨rfl,zu⟩,h⟩
 have T1:LI (KN w0) Tryz.prog A1 Q1 zzQ:=fun t qq=>⟨zh (zwe n v1 e1 s2),e_op1 (za rfl) (za rfl) (fun W=>by rw [← e3];exact r_cvi (by kernel_rfl) (by kernel_rfl) W),zsM (E:=5) (ps:=[pV (.int .u8 v3)]) (l:=[bI v3]) (by kernel_rfl) (by kernel_rfl) (by kernel_rfl) rfl (zn3 (l:=[v3]) ⟨s4,trivial⟩) rfl rfl (by rw [e5];exact za rfl),e_bin (za rfl) (za rfl) (za rfl) (fun W X Y=>by rw [← e6];exact r_cat s7 W X Y),trivial⟩
 have L_ri:∀R:Frm,R.pm=⟨ntOf Tryz.prog 13,[],[]⟩→zj (KN w0) Tryz.prog (FQ (A1 []) [] (Q1 [])) R ri_S (lp Tryz.prog 13 0):=fun R hR=>ri_ok n v1  o2 c2 rfl rfl rfl rfl R hR hn e1.symm hO_ri
 refine Fun.fin (r:=.o (.c (pS v6))) (zq (zN (F:=FQ (A1 []) [] (Q1 [])) (C:=zzQ) (k:=⟨13,[yh 0],[],yh 4,[]⟩) ⟨[ri_S],[],0⟩ [] 0 (zws (f1 [] trivial) trivial (fq1 [] trivial)) (T1 [] []) mixed trivial (fun R hR p hp s hs=>by
  have hl:zD (zR Tryz.prog 13)=[(3,lp Tryz.prog 13 0)]:=by kernel_rfl
  rw [hl] at hp
  simp only [List.mem_cons,List.not_mem_nil,or_false] at hp
  rcases hp with rfl
  ·have e:s=ri_S:=(Option.some.inj hs).symm
   subst e;exact L_ri R hR) (by kernel_rfl))) (fun v W D h=>?_)
 have r0:r=v6:=by
  obtain ⟨c,hc,e⟩:=zia (n:=n)
  have h2:=(zeo e hc).2
  rw [← hr,← e6,← e5,← e3,hO_ri.1,hO_ri.2,← h2]
  rw [qP hc] at e
  rw [wrap8,Nat.mod_eq_of_lt (by omega)]
  exact e.symm
 rw [r0];exact h
abbrev zzS:List (Nat×Ent):=(1000002,.op (.len [9] 3) [yh 0] [] (yh 1))::(1000003,.call ⟨12,[yh 1],[],yh 2,[]⟩)::(1000005,.bin .add 9 (yh 2) (yh 0) (yh 3))::[]
theorem zs9 {w0:World} (s r:List UInt8) (hr:encT s=r) (hn:TxW s):Fun (KN w0) Tryz.prog 30 [.o (.c (pS s))] (.o (.c (pS r))):=by
 obtain ⟨v1,e1⟩:=LX (((s:List UInt8).length:Int))
 obtain ⟨v2,e2⟩:=LX (encI v1)
 have s3:InI v1:=by (unfold TxW at hn;first | (unfold InI;subst_vars;omega) | (subst_vars;have:=zv (n:=(s.length:Int)) (by unfold InI;omega);omega))
 obtain ⟨v4,e4⟩:=LX (v2++s)
 have s5:(((v2:List UInt8).length+(s:List UInt8).length:Nat):Int)≤9223372036854775807:=by (unfold TxW at hn;first | (unfold InI;subst_vars;omega) | (subst_vars;have:=zv (n:=(s.length:Int)) (by unfold InI;omega);omega))
 let A1:List Pred→List Pred:=fun t=>pS s::pI v1::pS v2::pS v4::t
 have f1:LA (KN w0) A1:=fun t h=>⟨zc,zc,zc,zc,h⟩
 have T1:LT (KN w0) Tryz.prog A1 zzS:=fun t=>⟨e_op1 (za rfl) (za rfl) (fun W=>by rw [← e1];exact zav (by kernel_rfl) W),zh (w_int v1 v2 e2 s3),e_bin (za rfl) (za rfl) (za rfl) (fun W X Y=>by rw [← e4];exact r_cat s5 W X Y),trivial⟩
 refine Fun.fin (r:=.o (.c (pS v4))) (zq (zr (F:=FL (A1 []) []) (C:=zzS) (k:=⟨30,[yh 0],[],yh 3,[]⟩) 0 (zg (f1 [] trivial)) (T1 []) mixed (by kernel_rfl))) (fun v W D h=>?_)
 have r0:r=v4:=by
  rw [← hr];unfold encT;subst_vars;rfl
 rw [r0];exact h
abbrev zzj:List (Nat×Ent):=(1000002,.op (.len [9] 3) [yh 0] [] (yh 1))::(1000003,.call ⟨13,[yh 1],[],yh 2,[]⟩)::(1000005,.bin .add 9 (yh 2) (yh 0) (yh 3))::[]
theorem zqm {w0:World} (s r:List UInt8) (hr:encT s=r) (hn:TxW s):Fun (KN w0) Tryz.prog 42 [.o (.c (pS s))] (.o (.c (pS r))):=by
 obtain ⟨v1,e1⟩:=LX (((s:List UInt8).length:Int))
 obtain ⟨v2,e2⟩:=LX (encI v1)
 have s3:InI v1:=by (unfold TxW at hn;first | (unfold InI;subst_vars;omega) | (subst_vars;have:=zv (n:=(s.length:Int)) (by unfold InI;omega);omega))
 obtain ⟨v4,e4⟩:=LX (v2++s)
 have s5:(((v2:List UInt8).length+(s:List UInt8).length:Nat):Int)≤9223372036854775807:=by (unfold TxW at hn;first | (unfold InI;subst_vars;omega) | (subst_vars;have:=zv (n:=(s.length:Int)) (by unfold InI;omega);omega))
 let A1:List Pred→List Pred:=fun t=>pS s::pI v1::pS v2::pS v4::t
 have f1:LA (KN w0) A1:=fun t h=>⟨zc,zc,zc,zc,h⟩
 have T1:LT (KN w0) Tryz.prog A1 zzj:=fun t=>⟨e_op1 (za rfl) (za rfl) (fun W=>by rw [← e1];exact zav (by kernel_rfl) W),zh (zbH v1 v2 e2 s3),e_bin (za rfl) (za rfl) (za rfl) (fun W X Y=>by rw [← e4];exact r_cat s5 W X Y),trivial⟩
 refine Fun.fin (r:=.o (.c (pS v4))) (zq (zr (F:=FL (A1 []) []) (C:=zzj) (k:=⟨42,[yh 0],[],yh 3,[]⟩) 0 (zg (f1 [] trivial)) (T1 []) mixed (by kernel_rfl))) (fun v W D h=>?_)
 have r0:r=v4:=by
  rw [← hr];unfold encT;subst_vars;rfl
 rw [r0];exact h
abbrev zAc:List (Nat×Ent):=(1000004,.call ⟨12,[yh 0],[],yh 3,[]⟩)::(1000007,.call ⟨12,[yh 1],[],yh 4,[]⟩)::(1000008,.bin .add 9 (yh 3) (yh 4) (yh 5))::(1000011,.call ⟨12,[yh 2],[],yh 6,[]⟩)::(1000012,.bin .add 9 (yh 5) (yh 6) (yh 7))::[]
theorem w_vec {w0:World} (x:V3) (r:List UInt8) (hr:encV x=r) (hn:InV x):Fun (KN w0) Tryz.prog 32 [.o (.g [pI x.1,pI x.2.1,pI x.2.2])] (.o (.c (pS r))):=by
 obtain ⟨v1,e1⟩:=LX (encI x.1)
 have s2:InI x.1:=by (first | exact hn.1 | exact hn.2.1 | exact hn.2.2 | (subst_vars;have q1:=zv hn.1;have q2:=zv hn.2.1;have q3:=zv hn.2.2;(try simp only [List.length_append]);omega))
 obtain ⟨v3,e3⟩:=LX (encI x.2.1)
 have s4:InI x.2.1:=by (first | exact hn.1 | exact hn.2.1 | exact hn.2.2 | (subst_vars;have q1:=zv hn.1;have q2:=zv hn.2.1;have q3:=zv hn.2.2;(try simp only [List.length_append]);omega))
 obtain ⟨v5,e5⟩:=LX (v1++v3)
 have s6:(((v1:List UInt8).length+(v3:List UInt8).length:Nat):Int)≤9223372036854775807:=by (first | exact hn.1 | exact hn.2.1 | exact hn.2.2 | (subst_vars;have q1:=zv hn.1;have q2:=zv hn.2.1;have q3:=zv hn.2.2;(try simp only [List.length_append]);omega))
 obtain ⟨v7,e7⟩:=LX (encI x.2.2)
 have s8:InI x.2.2:=by (first | exact hn.1 | exact hn.2.1 | exact hn.2.2 | (subst_vars;have q1:=zv hn.1;have q2:=zv hn.2.1;have q3:=zv hn.2.2;(try simp only [List.length_append]);omega))
 obtain ⟨v9,e9⟩:=LX (v5++v7)
 have s10:(((v5:List UInt8).length+(v7:List UInt8).length:Nat):Int)≤9223372036854775807:=by (first | exact hn.1 | exact hn.2.1 | exact hn.2.2 | (subst_vars;have q1:=zv hn.1;have q2:=zv hn.2.1;have q3:=zv hn.2.2;(try simp only [List.length_append]);omega))
 let A1:List Pred→List Pred:=fun t=>pI x.1::pI x.2.1::pI x.2.2::pS v1::pS v3::pS v5::pS v7::pS v9::t
 have f1:LA (KN w0) A1:=fun t h=>⟨zc,zc,zc,zc,zc,zc,zc,zc,h⟩
 have T1:LT (KN w0) Tryz.prog A1 zAc:=fun t=>⟨zh (w_int x.1 v1 e1 s2),zh (w_int x.2.1 v3 e3 s4),e_bin (za rfl) (za rfl) (za rfl) (fun W X Y=>by rw [← e5];exact r_cat s6 W X Y),zh (w_int x.2.2 v7 e7 s8),e_bin (za rfl) (za rfl) (za rfl) (fun W X Y=>by rw [← e9];exact r_cat s10 W X Y),trivial⟩
 refine Fun.fin (r:=.o (.c (pS v9))) (zq (zr (F:=FL (A1 []) []) (C:=zAc) (k:=⟨32,[.o (.g [.h 0,.h 1,.h 2])],[],yh 7,[]⟩) 0 (zg (f1 [] trivial)) (T1 []) mixed (by kernel_rfl))) (fun v W D h=>?_)
 have r0:r=v9:=by
  rw [← hr];unfold encV;subst_vars;rfl
 rw [r0];exact h
abbrev zzR:List (Nat×Ent):=(1000004,.call ⟨13,[yh 0],[],yh 3,[]⟩)::(1000007,.call ⟨13,[yh 1],[],yh 4,[]⟩)::(1000008,.bin .add 9 (yh 3) (yh 4) (yh 5))::(1000011,.call ⟨13,[yh 2],[],yh 6,[]⟩)::(1000012,.bin .add 9 (yh 5) (yh 6) (yh 7))::[]
theorem zs8 {w0:World} (x:V3) (r:List UInt8) (hr:encV x=r) (hn:InV x):Fun (KN w0) Tryz.prog 44 [.o (.g [pI x.1,pI x.2.1,pI x.2.2])] (.o (.c (pS r))):=by
 obtain ⟨v1,e1⟩:=LX (encI x.1)
 have s2:InI x.1:=by (first | exact hn.1 | exact hn.2.1 | exact hn.2.2 | (subst_vars;have q1:=zv hn.1;have q2:=zv hn.2.1;have q3:=zv hn.2.2;(try simp only [List.length_append]);omega))
 obtain ⟨v3,e3⟩:=LX (encI x.2.1)
 have s4:InI x.2.1:=by (first | exact hn.1 | exact hn.2.1 | exact hn.2.2 | (subst_vars;have q1:=zv hn.1;have q2:=zv hn.2.1;have q3:=zv hn.2.2;(try simp only [List.length_append]);omega))
 obtain ⟨v5,e5⟩:=LX (v1++v3)
 have s6:(((v1:List UInt8).length+(v3:List UInt8).length:Nat):Int)≤9223372036854775807:=by (first | exact hn.1 | exact hn.2.1 | exact hn.2.2 | (subst_vars;have q1:=zv hn.1;have q2:=zv hn.2.1;have q3:=zv hn.2.2;(try simp only [List.length_append]);omega))
 obtain ⟨v7,e7⟩:=LX (encI x.2.2)
 have s8:InI x.2.2:=by (first | exact hn.1 | exact hn.2.1 | exact hn.2.2 | (subst_vars;have q1:=zv hn.1;have q2:=zv hn.2.1;have q3:=zv hn.2.2;(try simp only [List.length_append]);omega))
 obtain ⟨v9,e9⟩:=LX (v5++v7)
 have s10:(((v5:List UInt8).length+(v7:List UInt8).length:Nat):Int)≤9223372036854775807:=by (first | exact hn.1 | exact hn.2.1 | exact hn.2.2 | (subst_vars;have q1:=zv hn.1;have q2:=zv hn.2.1;have q3:=zv hn.2.2;(try simp only [List.length_append]);omega))
 let A1:List Pred→List Pred:=fun t=>pI x.1::pI x.2.1::pI x.2.2::pS v1::pS v3::pS v5::pS v7::pS v9::t
 have f1:LA (KN w0) A1:=fun t h=>⟨zc,zc,zc,zc,zc,zc,zc,zc,h⟩
 have T1:LT (KN w0) Tryz.prog A1 zzR:=fun t=>⟨zh (zbH x.1 v1 e1 s2),zh (zbH x.2.1 v3 e3 s4),e_bin (za rfl) (za rfl) (za rfl) (fun W X Y=>by rw [← e5];exact r_cat s6 W X Y),zh (zbH x.2.2 v7 e7 s8),e_bin (za rfl) (za rfl) (za rfl) (fun W X Y=>by rw [← e9];exact r_cat s10 W X Y),trivial⟩
 refine Fun.fin (r:=.o (.c (pS v9))) (zq (zr (F:=FL (A1 []) []) (C:=zzR) (k:=⟨44,[.o (.g [.h 0,.h 1,.h 2])],[],yh 7,[]⟩) 0 (zg (f1 [] trivial)) (T1 []) mixed (by kernel_rfl))) (fun v W D h=>?_)
 have r0:r=v9:=by
  rw [← hr];unfold encV;subst_vars;rfl
 rw [r0];exact h
abbrev zy3:List (Nat×Ent):=(1000004,.call ⟨32,[.o (.g [.h 0,.h 1,.h 2])],[],yh 4,[]⟩)::(1000007,.call ⟨12,[yh 3],[],yh 5,[]⟩)::(1000008,.bin .add 9 (yh 4) (yh 5) (yh 6))::[]
theorem zuY {w0:World} (x:Pl) (r:List UInt8) (hr:encP x=r) (hn:InP x):Fun (KN w0) Tryz.prog 64 [.o (.g [pI x.1.1,pI x.1.2.1,pI x.1.2.2,pI x.2])] (.o (.c (pS r))):=by
 obtain ⟨v1,e1⟩:=LX (encV x.1)
 have s2:InV x.1:=by (first | exact hn.1 | exact hn.2 | (subst_vars;have q1:=zbP hn.1;have q2:=zv hn.2;omega))
 obtain ⟨v3,e3⟩:=LX (encI x.2)
 have s4:InI x.2:=by (first | exact hn.1 | exact hn.2 | (subst_vars;have q1:=zbP hn.1;have q2:=zv hn.2;omega))
 obtain ⟨v5,e5⟩:=LX (v1++v3)
 have s6:(((v1:List UInt8).length+(v3:List UInt8).length:Nat):Int)≤9223372036854775807:=by (first | exact hn.1 | exact hn.2 | (subst_vars;have q1:=zbP hn.1;have q2:=zv hn.2;omega))
 let A1:List Pred→List Pred:=fun t=>pI x.1.1::pI x.1.2.1::pI x.1.2.2::pI x.2::pS v1::pS v3::pS v5::t
 have f1:LA (KN w0) A1:=fun t h=>⟨zc,zc,zc,zc,zc,zc,zc,h⟩
 have T1:LT (KN w0) Tryz.prog A1 zy3:=fun t=>⟨zh (w_vec x.1 v1 e1 s2),zh (w_int x.2 v3 e3 s4),e_bin (za rfl) (za rfl) (za rfl) (fun W X Y=>by rw [← e5];exact r_cat s6 W X Y),trivial⟩
 refine Fun.fin (r:=.o (.c (pS v5))) (zq (zr (F:=FL (A1 []) []) (C:=zy3) (k:=⟨64,[.o (.g [.h 0,.h 1,.h 2,.h 3])],[],yh 6,[]⟩) 0 (zg (f1 [] trivial)) (T1 []) mixed (by kernel_rfl))) (fun v W D h=>?_)
 have r0:r=v5:=by
  rw [← hr];unfold encP;subst_vars;rfl
 rw [r0];exact h
end Go.Proofs.YtjcegdldgjphiaaGreatDoor
namespace Go.Proofs.YtjcegdldgjphiaaGreatDoor
def lfO (st:St):List UInt8:=st.getD []
def bdO (st:St):Bool:=st.isNone
theorem q9 {st:St}:bdO st=true↔st=none:=by cases st<;>simp [bdO]
theorem qn {st:St}:bdO st=false↔∃l,st=some l:=by cases st<;>simp [bdO]
theorem zg1 (st:St):leftN st=(lfO st).length:=by cases st<;>rfl
def RdJ (l:List UInt8) (k c:Nat):Prop:=k≤9∧c<2 ^ (7*k)∧decGo 0 l=(decGo k (l.drop k)).map fun x=>(c+2 ^ (7*k)*x.1,x.2)
theorem ziv (l:List UInt8):RdJ l 0 0:=by
 refine ⟨by decide,by decide,?_⟩
 rw [List.drop_zero]
 cases decGo 0 l with
 | none=>rfl
 | some x=>simp
def badB (k:Nat) (b:UInt8):Prop:=(k=9∧1<b.toNat)∨(0<k∧b.toNat=0)
theorem zdF {l:List UInt8} {k:Nat} {b:UInt8} (h:l[k]?=some b):l.drop k=b::l.drop (k+1):=by
 obtain ⟨hk,e⟩:=List.getElem?_eq_some_iff.1 h
 rw [List.drop_eq_getElem_cons hk,e]
theorem zkB {l:List UInt8} {k c:Nat} {b:UInt8} (h:RdJ l k c) (hb:l[k]?=some b) (hn:badB k b):decGo 0 l=none:=by
 unfold badB at hn
 rw [h.2.2,zdF hb,decGo,if_pos hn];rfl
theorem zt8 {l:List UInt8} {k c:Nat} (h:RdJ l k c) (hk:l.length≤k):decGo 0 l=none:=by
 rw [h.2.2,List.drop_of_length_le hk,decGo];rfl
theorem zcA {l:List UInt8} {k c:Nat} {b:UInt8} (h:RdJ l k c) (hb:l[k]?=some b) (hn:¬ badB k b) (hs:b.toNat<128):decGo 0 l=some (c+2 ^ (7*k)*b.toNat,l.drop (k+1)):=by
 unfold badB at hn
 rw [h.2.2,zdF hb,decGo,if_neg hn,if_pos hs];rfl
theorem zcB {l:List UInt8} {k c:Nat} {b:UInt8} (h:RdJ l k c) (hb:l[k]?=some b) (hn:¬ badB k b) (hs:¬ b.toNat<128):RdJ l (k+1) (c+2 ^ (7*k)*(b.toNat - 128)):=by
 have h9:k≠9:=fun e=>hn (.inl ⟨e,by omega⟩)
 have h1:=h.1
 have e1:2 ^ (7*(k+1))=128*2 ^ (7*k):=by
  rw [show 7*(k+1)=7+7*k by omega,Nat.pow_add]
 refine ⟨by omega,?_,?_⟩
 ·have h2:=h.2.1
  have h3:=b.toNat_lt
  rw [e1]
  have:2 ^ (7*k)*(b.toNat - 128)≤2 ^ (7*k)*127:=Nat.mul_le_mul_left _ (by omega)
  omega
 ·unfold badB at hn
  rw [h.2.2,zdF hb,decGo,if_neg hn,if_neg hs]
  cases decGo (k+1) (l.drop (k+1)) with
  | none=>simp only [Option.map_none]
  | some x =>
   simp only [Option.map_some,Option.some.injEq,Prod.mk.injEq,and_true]
   rw [e1]
   generalize 2 ^ (7*k)=y
   rw [Nat.mul_add,← Nat.mul_assoc y 128,Nat.mul_comm y 128,Nat.add_assoc]
theorem zop {l r:List UInt8} {c:Nat} (h:decGo 0 l=some (c,r)):c<18446744073709551616:=by
 have:=(zeA l 0 c r (by decide) h).2.1
 rwa [roof0] at this
theorem rd_or {l:List UInt8} {k c:Nat} {b:UInt8} (h:RdJ l k c) (hn:¬ badB k b):IntKind.u64.wrap ((BitVec.ofInt IntKind.u64.bits (c:Int) ||| BitVec.ofInt IntKind.u64.bits (IntKind.u64.wrap (((b.toNat%128:Nat):Int)*2 ^ min ((7*k:Nat):Int).toNat IntKind.u64.bits))).toNat:Int)=((c+2 ^ (7*k)*(b.toNat%128):Nat):Int):=by
 have h1:=h.1
 have hm:min ((7*k:Nat):Int).toNat IntKind.u64.bits=7*k:=by
  rw [Int.toNat_natCast]
  exact Nat.min_eq_left (by show 7*k≤64;omega)
 rw [hm]
 have hp:2 ^ (7*k)*(b.toNat%128)+2 ^ (7*k)≤18446744073709551616:=by
  by_cases h9:k=9
  ·subst h9
   have:b.toNat%128≤1:=by
    rcases Nat.lt_or_ge 1 b.toNat with h2 | h2
    ·exact absurd (.inl ⟨rfl,h2⟩) hn
    ·omega
   have:2 ^ (7*9)*(b.toNat%128)≤2 ^ (7*9)*1:=Nat.mul_le_mul_left _ this
   have e:2 ^ (7*9)=9223372036854775808:=by decide
   omega
  ·have e1:2 ^ (7*k)≤2 ^ 56:=Nat.pow_le_pow_right (by decide) (by omega)
   have e2:(2:Nat) ^ 56=72057594037927936:=by decide
   have:2 ^ (7*k)*(b.toNat%128)≤2 ^ (7*k)*127:=Nat.mul_le_mul_left _ (by omega)
   omega
 have hw:IntKind.u64.wrap (((b.toNat%128:Nat):Int)*2 ^ (7*k))=(((b.toNat%128)*2 ^ (7*k):Nat):Int):=by
  rw [wu64]
  have e:((b.toNat%128:Nat):Int)*2 ^ (7*k)=(((b.toNat%128)*2 ^ (7*k):Nat):Int):=by
   rw [Int.natCast_mul,Int.natCast_pow];rfl
  rw [e]
  rw [Nat.mul_comm] at hp
  have hpos:0<2 ^ (7*k):=Nat.pow_pos (by decide)
  generalize b.toNat%128*2 ^ (7*k)=y at hp ⊢
  omega
 rw [hw,ztW h.2.1 (by rw [Nat.mul_comm] at hp;have:=h.2.1;omega),Nat.mul_comm]
end Go.Proofs.YtjcegdldgjphiaaGreatDoor
namespace Go.Proofs.YtjcegdldgjphiaaGreatDoor
open Go.RowKit Go.Shelf
abbrev zAa:List (Nat×Ent):=(1000002,.bin .eql 45 (LF (.p 0 0)) (LF (.k (.pointer none))) (LF (.k (.bool false))))::[]
theorem w_bad {w0:World} (st:St) (o:Bool) (ho:bdO st=o):BFun false (KN w0) Tryz.prog 23 [.o (.c (.p 0 0))] [(62,[.d (pS (lfO st)),.d (pB (bdO st))])] (.o (.c (.d (pB o)))) [(62,[.d (pS (lfO st)),.d (pB (bdO st))])]:=by
 let A1:List Pred→List Pred:=fun t=>pS (lfO st)::pB (bdO st)::t
 have f1:LA (KN w0) A1:=fun t h=>⟨zc,zc,h⟩
 have T1:LT (KN w0) Tryz.prog A1 zAa:=fun t=>⟨zh9 (by kernel_rfl),trivial⟩
 have r0:o=bdO st:=by
  rw [← ho]
 rw [r0];exact con_b (pan:=false) (zr (F:=FL (A1 []) []) (C:=zAa) (k:=⟨23,[.o (.c (.p 0 0))],[.bx 0 62 [.h 0,.h 1]],yh 1,[.bx 0 62 [.h 0,.h 1]]⟩) 0 (zg (f1 [] trivial)) (T1 []) mixed (by kernel_rfl))
theorem ze5 {w0:World} (st:St):BFun false (KN w0) Tryz.prog 23 [.o (.c (.p 0 0))] [(62,[.d (pS (lfO st)),.d (pB (bdO st))])] (.o (.c (.d (pB (bdO st))))) [(62,[.d (pS (lfO st)),.d (pB (bdO st))])]:=w_bad st _ rfl
abbrev zzI:List (Nat×Ent):=(1000002,.bin .eql 45 (LF (.p 0 0)) (LF (.k (.pointer none))) (LF (.k (.bool false))))::(1000007,.op (.len [9] 3) [yh 0] [] (yh 2))::[]
theorem ze6 {w0:World} (st:St) (o:Int) (ho:(leftN st:Int)=o):BFun false (KN w0) Tryz.prog 21 [.o (.c (.p 0 0))] [(62,[.d (pS (lfO st)),.d (pB (bdO st))])] (.o (.c (.d (pI o)))) [(62,[.d (pS (lfO st)),.d (pB (bdO st))])]:=by
 obtain ⟨v1,e1⟩:=LX (((lfO st:List UInt8).length:Int))
 let A1:List Pred→List Pred:=fun t=>pS (lfO st)::pB (bdO st)::pI v1::t
 have f1:LA (KN w0) A1:=fun t h=>⟨zc,zc,zc,h⟩
 have T1:LT (KN w0) Tryz.prog A1 zzI:=fun t=>⟨zh9 (by kernel_rfl),e_op1 (za rfl) (za rfl) (fun W=>by rw [← e1];exact zav (by kernel_rfl) W),trivial⟩
 have r0:o=v1:=by
  rw [← ho,zg1,e1]
 rw [r0];exact con_b (pan:=false) (zr (F:=FL (A1 []) []) (C:=zzI) (k:=⟨21,[.o (.c (.p 0 0))],[.bx 0 62 [.h 0,.h 1]],yh 2,[.bx 0 62 [.h 0,.h 1]]⟩) 0 (zg (f1 [] trivial)) (T1 []) mixed (by kernel_rfl))
abbrev zzk:List (Nat×Ent):=(1000001,.bin .neq 45 (LF (.p 0 0)) (LF (.k (.pointer none))) (LF (.k (.bool true))))::[]
theorem zfn {w0:World} (st:St):BFun false (KN w0) Tryz.prog 67 [.o (.c (.p 0 0))] [(62,[.d (pS (lfO st)),.d (pB (bdO st))])] (.t []) [(62,[.d (pV (.string ⟨#[]⟩)),.d (pV (.bool true))])]:=by
 let A1:List Pred→List Pred:=fun t=>pS (lfO st)::pB (bdO st)::t
 have f1:LA (KN w0) A1:=fun t h=>⟨zc,zc,h⟩
 have T1:LT (KN w0) Tryz.prog A1 zzk:=fun t=>⟨zbu (by kernel_rfl),trivial⟩
 exact con_b (pan:=false) (zr (F:=FL (A1 []) []) (C:=zzk) (k:=⟨67,[.o (.c (.p 0 0))],[.bx 0 62 [.h 0,.h 1]],.t [],[.bx 0 62 [.k (.string ⟨#[]⟩),.k (.bool true)]]⟩) 0 (zg (f1 [] trivial)) (T1 []) mixed (by kernel_rfl))
theorem w_new {w0:World} (s:(List UInt8)):NFun (KN w0) Tryz.prog 18 [.o (.c (pS s))] 62 [pS s,pV (.bool false)] :=
 zom (F:=FL [pS s] []) (C:=[]) (as':=[yh 0]) (ls:=[.h 0,.k (.bool false)]) ⟨[],[],0⟩ [] 0 (zg ⟨zc,trivial⟩) trivial mixed trivial (fun _ _ _ _ _ hs=>by cases hs) (by kernel_rfl) rfl rfl
structure wrA_T where
 code:Int
 i:Int
def zO:List Atom:=[.sl 0 (.o (.c (.p 0 0))),.sl 3 (yh 5000),.sl 6 (.o (.c (.p 0 0))),.sl 7 (.o (.c (.k (.bool false)))),.sl 8 (.o (.c (.p 0 0))),.sl 9 (.o (.c (.p 0 0))),.sl 10 (.o (.c (.p 0 0))),.sl 11 (yh 0),.sl 12 (yh 1),.sl 13 (yh 2),.sl 14 (yh 3),.bx 0 62 [.h 0,.k (.bool false)]]
def wrA_S:LoopS:=⟨5,[.sl 0 (.o (.c (.p 0 0))),.sl 3 (.o (.c (.k (.int .u64 0)))),.sl 6 (.o (.c (.p 0 0))),.sl 7 (.o (.c (.k (.bool false)))),.sl 8 (.o (.c (.p 0 0))),.sl 9 (.o (.c (.p 0 0))),.sl 10 (.o (.c (.p 0 0))),.sl 11 (yh 0),.sl 12 (yh 1),.sl 13 (yh 2),.sl 14 (.o (.c (.k (.int .i64 0)))),.bx 0 62 [.h 0,.k (.bool false)]],.r,[.sl 0 (.o (.c (.p 0 0))),.sl 2 (yh 3),.sl 6 (.o (.c (.p 0 0))),.sl 7 (.o (.c (.k (.bool false)))),.sl 8 (.o (.c (.p 0 0))),.sl 9 (.o (.c (.p 0 0))),.sl 10 (.o (.c (.p 0 0))),.sl 11 (yh 0),.sl 12 (yh 1),.sl 13 (yh 2),.bx 0 62 [.h 4,.k (.bool false)]]⟩
abbrev zBa:List (Nat×Ent):=(1005000,.bin .lss 3 (yh 3) (yh 2) (yh 4))::[]
abbrev zAE:List (Nat×Ent):=(10004,.fb 4 true)::(1005008,.op (.ix 9) [yh 0,yh 3] [] (yh 5))::(1005011,.bin .eql 3 (yh 3) (LF (.k (.int .i64 9))) (yh 6))::zBa
abbrev zBb:List (Nat×Ent):=(10006,.fb 6 true)::(1005014,.bin .gtr 5 (yh 5) (LF (.k (.int .u8 1))) (yh 7))::zAE
abbrev zBc:List (Nat×Ent):=(10007,.fb 7 false)::(1005018,.bin .gtr 3 (yh 3) (LF (.k (.int .i64 0))) (yh 8))::(10008,.fb 8 true)::(1005021,.bin .eql 5 (yh 5) (LF (.k (.int .u8 0))) (yh 9))::zBb
abbrev zAF:List (Nat×Ent):=(10009,.fb 9 false)::(1005026,.bin .and 5 (yh 5) (LF (.k (.int .u8 127))) (yh 10))::(1005027,.op (.cv 5 72) [yh 10] [] (yh 5001))::(1005029,.bin .mul 3 (LF (.k (.int .i64 7))) (yh 3) (yh 11))::(1005030,.bin .shl 72 (yh 5001) (yh 11) (yh 5002))::(1005031,.bin .or 72 (yh 5000) (yh 5002) (yh 5003))::(1005034,.bin .lss 5 (yh 5) (LF (.k (.int .u8 128))) (yh 12))::zBc
abbrev zBd:List (Nat×Ent):=(10012,.fb 12 true)::(1005041,.bin .add 3 (yh 3) (LF (.k (.int .i64 1))) (yh 13))::(1005042,.op (.sc 9 true false false) [yh 0,yh 13] [] (yh 14))::(1005047,.bin .shr 72 (yh 5003) (LF (.k (.int .u64 1))) (yh 5004))::(1005048,.op (.cv 72 3) [yh 5004] [] (yh 15))::(1005050,.bin .and 72 (yh 5003) (LF (.k (.int .u64 1))) (yh 5005))::(1005051,.op (.cv 72 3) [yh 5005] [] (yh 16))::(1005052,.un .neg (yh 16) (yh 17))::(1005053,.bin .xor 3 (yh 15) (yh 17) (yh 18))::zAF
abbrev zBe:List (Nat×Ent):=(10012,.fb 12 false)::(1005035,.bin .add 3 (yh 3) (LF (.k (.int .i64 1))) (yh 13))::zAF
abbrev zAG:List (Nat×Ent):=(10006,.fb 6 false)::(1005018,.bin .gtr 3 (yh 3) (LF (.k (.int .i64 0))) (yh 7))::zAE
abbrev zBf:List (Nat×Ent):=(10007,.fb 7 true)::(1005021,.bin .eql 5 (yh 5) (LF (.k (.int .u8 0))) (yh 8))::zAG
abbrev zz3:List (Nat×Ent):=(10008,.fb 8 false)::(1005026,.bin .and 5 (yh 5) (LF (.k (.int .u8 127))) (yh 9))::(1005027,.op (.cv 5 72) [yh 9] [] (yh 5001))::(1005029,.bin .mul 3 (LF (.k (.int .i64 7))) (yh 3) (yh 10))::(1005030,.bin .shl 72 (yh 5001) (yh 10) (yh 5002))::(1005031,.bin .or 72 (yh 5000) (yh 5002) (yh 5003))::(1005034,.bin .lss 5 (yh 5) (LF (.k (.int .u8 128))) (yh 11))::zBf
abbrev zAA:List (Nat×Ent):=(10011,.fb 11 true)::(1005041,.bin .add 3 (yh 3) (LF (.k (.int .i64 1))) (yh 12))::(1005042,.op (.sc 9 true false false) [yh 0,yh 12] [] (yh 13))::(1005047,.bin .shr 72 (yh 5003) (LF (.k (.int .u64 1))) (yh 5004))::(1005048,.op (.cv 72 3) [yh 5004] [] (yh 14))::(1005050,.bin .and 72 (yh 5003) (LF (.k (.int .u64 1))) (yh 5005))::(1005051,.op (.cv 72 3) [yh 5005] [] (yh 15))::(1005052,.un .neg (yh 15) (yh 16))::(1005053,.bin .xor 3 (yh 14) (yh 16) (yh 17))::zz3
abbrev zAB:List (Nat×Ent):=(10011,.fb 11 false)::(1005035,.bin .add 3 (yh 3) (LF (.k (.int .i64 1))) (yh 12))::zz3
abbrev zz4:List (Nat×Ent):=(10007,.fb 7 false)::(1005026,.bin .and 5 (yh 5) (LF (.k (.int .u8 127))) (yh 8))::(1005027,.op (.cv 5 72) [yh 8] [] (yh 5001))::(1005029,.bin .mul 3 (LF (.k (.int .i64 7))) (yh 3) (yh 9))::(1005030,.bin .shl 72 (yh 5001) (yh 9) (yh 5002))::(1005031,.bin .or 72 (yh 5000) (yh 5002) (yh 5003))::(1005034,.bin .lss 5 (yh 5) (LF (.k (.int .u8 128))) (yh 10))::zAG
abbrev zAC:List (Nat×Ent):=(10010,.fb 10 true)::(1005041,.bin .add 3 (yh 3) (LF (.k (.int .i64 1))) (yh 11))::(1005042,.op (.sc 9 true false false) [yh 0,yh 11] [] (yh 12))::(1005047,.bin .shr 72 (yh 5003) (LF (.k (.int .u64 1))) (yh 5004))::(1005048,.op (.cv 72 3) [yh 5004] [] (yh 13))::(1005050,.bin .and 72 (yh 5003) (LF (.k (.int .u64 1))) (yh 5005))::(1005051,.op (.cv 72 3) [yh 5005] [] (yh 14))::(1005052,.un .neg (yh 14) (yh 15))::(1005053,.bin .xor 3 (yh 13) (yh 15) (yh 16))::zz4
abbrev zAD:List (Nat×Ent):=(10010,.fb 10 false)::(1005035,.bin .add 3 (yh 3) (LF (.k (.int .i64 1))) (yh 11))::zz4
theorem zwg {w0:World} (l:(List UInt8)) (v1:Int) (v2:Int) (o:Int) (l2:(List UInt8)) {F:Fact} (u0:F.c 0=pS l) (u1:F.c 1=pI v1) (u2:F.c 2=pI v2) (u3:F.c 3=pI o) (u4:F.c 4=pS l2) (R:Frm) (hR:R.pm=⟨ntOf Tryz.prog 36,[0],[]⟩) (h1:((l:List UInt8).length:Int)=v1) (h2:(if v1<(10:Int) then v1 else (10:Int))=v2) (hd:(decGo 0 l).isSome=true) (hO:decI l=some (o,l2)):zj (KN w0) Tryz.prog F R wrA_S (lp Tryz.prog 36 0):=by
 refine zG (T:=wrA_T) (fun t=>FL [pS l,pI v1,pI v2,pI t.i] [] [(5000,pV (.int .u64 t.code))]) (fun ⟨code,i⟩=>∃k c:Nat,i=(k:Int)∧code=(c:Int)∧RdJ l k c) (fun ⟨code,i⟩=>(10 - i).toNat) { code:=(0:Int),i:=(0:Int) } zO ⟨0,0,rfl,rfl,ziv l⟩ (LZ ⟨z_c yy,z_c yy,z_c yy,z_c yy,z_c yy,z_c yy,z_c yy,z_c (LU u0),z_c (LU u1),z_c (LU u2),z_c yy,z_b ⟨LU u0,yy,trivial⟩,trivial⟩) rfl fun t hJ=>?_
 obtain ⟨code,i⟩:=t
 dsimp only at hJ
 obtain ⟨k,c,hi,hc,hJ⟩:=hJ
 have hk9:=hJ.1
 obtain ⟨v501,e501⟩:=LX (decide (i<v2))
 let A1:List Pred→List Pred:=fun t=>pS l::pI v1::pI v2::pI i::pB v501::t
 have f1:LA (KN w0) A1:=fun t h=>⟨zc,zc,zc,zc,zc,h⟩
 let Q1:List (Nat×Pred)→List (Nat×Pred):=fun t=>(5000,pV (.int .u64 code))::t
 have fq1:LQ (KN w0) Q1:=fun t h=>⟨⟨rfl,zu⟩,h⟩
 have T1:LI (KN w0) Tryz.prog A1 Q1 zBa:=fun t qq=>⟨e_bin (za rfl) (za rfl) (za rfl) (r_cmp (LO e501)),trivial⟩
 cases h502:v501 with
 | true =>
  obtain ⟨n503,b504,s505,s506⟩:∃(n503:Nat) (b504:UInt8),i=(n503:Int)∧(l:List UInt8)[n503]?=some b504:=by (have dh502:=LD e501 h502;have hlt:k<l.length:=(by split at h2<;>omega);exact ⟨k,l[k],hi,List.getElem?_eq_getElem hlt⟩)
  obtain ⟨v507,e507⟩:=LX ((i == (9:Int)))
  let A2:=fun t=>A1 (pV (.int .u8 (b504.toNat:Int))::pB v507::t)
  have f2:LA (KN w0) A2:=fun t h=>f1 _ ⟨zc,zc,h⟩
  have T2:LI (KN w0) Tryz.prog A2 Q1 zAE:=fun t qq=>⟨e_fbv h502,e_op2 (za rfl) (za rfl) (za rfl) (r_ix (by kernel_rfl) s505 s506),e_bin (za rfl) ze (za rfl) (r_cmp (LO e507)),T1 _ _⟩
  cases h508:v507 with
  | true =>
   obtain ⟨v509,e509⟩:=LX (decide ((b504.toNat:Int) > (1:Int)))
   let A3:=fun t=>A2 (pB v509::t)
   have f3:LA (KN w0) A3:=fun t h=>f2 _ ⟨zc,h⟩
   have T3:LI (KN w0) Tryz.prog A3 Q1 zBb:=fun t qq=>⟨e_fbv h508,e_bin (za rfl) ze (za rfl) (r_cmp (LO e509)),T2 _ _⟩
   cases h510:v509 with
   | true =>
    exfalso
    have dh502:=LD e501 h502;have dh508:=eq_of_beq (e507.trans h508);have dh510:=LD e509 h510
    have hnk:n503=k:=(by omega)
    subst hnk
    have hb:=s506
    have hz:=zkB hJ hb (by unfold badB;omega)
    rw [hz] at hd
    cases hd
   | false =>
    obtain ⟨v511,e511⟩:=LX (decide (i > (0:Int)))
    have s512:v511=true:=by (have dh502:=LD e501 h502;have dh508:=eq_of_beq (e507.trans h508);have dh510:=LE e509 h510;rw [← e511];exact decide_eq_true (by omega))
    obtain ⟨v513,e513⟩:=LX (((b504.toNat:Int) == (0:Int)))
    let A4:=fun t=>A3 (pB v511::pB v513::t)
    have f4:LA (KN w0) A4:=fun t h=>f3 _ ⟨zc,zc,h⟩
    have T4:LI (KN w0) Tryz.prog A4 Q1 zBc:=fun t qq=>⟨e_fbv h510,e_bin (za rfl) ze (za rfl) (r_cmp (LO e511)),e_fbv s512,e_bin (za rfl) ze (za rfl) (r_cmp (LO e513)),T3 _ _⟩
    cases h514:v513 with
    | true =>
     exfalso
     have dh502:=LD e501 h502;have dh508:=eq_of_beq (e507.trans h508);have dh510:=LE e509 h510;have dh514:=eq_of_beq (e513.trans h514)
     have hnk:n503=k:=(by omega)
     subst hnk
     have hb:=s506
     have hz:=zkB hJ hb (by unfold badB;omega)
     rw [hz] at hd
     cases hd
    | false =>
     obtain ⟨v515,e515⟩:=LX (IntKind.u8.wrap (BitVec.ofInt IntKind.u8.bits (b504.toNat:Int) &&& BitVec.ofInt IntKind.u8.bits (127:Int)).toNat)
     obtain ⟨v516,e516⟩:=LX (IntKind.u64.wrap v515)
     obtain ⟨v517,e517⟩:=LX (IntKind.i64.wrap ((7:Int)*i))
     have s518:0≤v517:=by (rw [← e517,hi,wri (by omega)];omega)
     obtain ⟨v519,e519⟩:=LX (IntKind.u64.wrap (v516*2 ^ min (v517:Int).toNat IntKind.u64.bits))
     obtain ⟨v520,e520⟩:=LX (IntKind.u64.wrap (BitVec.ofInt IntKind.u64.bits code ||| BitVec.ofInt IntKind.u64.bits v519).toNat)
     obtain ⟨v521,e521⟩:=LX (decide ((b504.toNat:Int)<(128:Int)))
     let A5:=fun t=>A4 (pV (.int .u8 v515)::pI v517::pB v521::t)
     have f5:LA (KN w0) A5:=fun t h=>f4 _ ⟨zc,zc,zc,h⟩
     let Q5:=fun t=>Q1 ((5001,pV (.int .u64 v516))::(5002,pV (.int .u64 v519))::(5003,pV (.int .u64 v520))::t)
     have fq5:LQ (KN w0) Q5:=fun t h=>fq1 _ ⟨⟨rfl,zu⟩,⟨rfl,zu⟩,⟨rfl,zu⟩,h⟩
     have T5:LI (KN w0) Tryz.prog A5 Q5 zAF:=fun t qq=>⟨e_fbv h514,e_bin (za rfl) ze (za rfl) (zal (LO e515)),e_op1 (za rfl) (za rfl) (fun W=>by rw [← e516];exact r_cvi (by kernel_rfl) (by kernel_rfl) W),e_bin ze (za rfl) (za rfl) (r_ar (LO e517)),e_bin (za rfl) (za rfl) (za rfl) (fun W X Y=>by rw [← e519];exact r_shl s518 W X Y),e_bin (za rfl) (za rfl) (za rfl) (zal (LO e520)),e_bin (za rfl) ze (za rfl) (r_cmp (LO e521)),T4 _ _⟩
     cases h522:v521 with
     | true =>
      obtain ⟨v523,e523⟩:=LX (IntKind.i64.wrap (i+(1:Int)))
      obtain ⟨n524,s525⟩:∃(n524:Nat),v523=(n524:Int):=by (refine ⟨k+1,?_⟩;rw [← e523,hi,wri (by omega)];omega)
      obtain ⟨v526,e526⟩:=LX ((l:List UInt8).drop n524)
      have s527:n524≤(l:List UInt8).length:=by (have dh502:=LD e501 h502;have dh508:=eq_of_beq (e507.trans h508);have dh510:=LE e509 h510;have dh514:=ne_of_beq_false (e513.trans h514);have dh522:=LD e521 h522;have hlt:k<l.length:=(by split at h2<;>omega);have:=e523;rw [hi,wri (by omega)] at this;omega)
      obtain ⟨v528,e528⟩:=LX ((v520:Int).fdiv (2 ^ min ((1:Int):Int).toNat IntKind.u64.bits))
      obtain ⟨v529,e529⟩:=LX (IntKind.i64.wrap v528)
      obtain ⟨v530,e530⟩:=LX (IntKind.u64.wrap (BitVec.ofInt IntKind.u64.bits v520 &&& BitVec.ofInt IntKind.u64.bits (1:Int)).toNat)
      obtain ⟨v531,e531⟩:=LX (IntKind.i64.wrap v530)
      obtain ⟨v532,e532⟩:=LX (IntKind.i64.wrap (0 - v531))
      obtain ⟨v533,e533⟩:=LX (IntKind.i64.wrap (BitVec.ofInt IntKind.i64.bits v529 ^^^ BitVec.ofInt IntKind.i64.bits v532).toNat)
      let A6:=fun t=>A5 (pI v523::pS v526::pI v529::pI v531::pI v532::pI v533::t)
      have f6:LA (KN w0) A6:=fun t h=>f5 _ ⟨zc,zc,zc,zc,zc,zc,h⟩
      let Q6:=fun t=>Q5 ((5004,pV (.int .u64 v528))::(5005,pV (.int .u64 v530))::t)
      have fq6:LQ (KN w0) Q6:=fun t h=>fq5 _ ⟨⟨rfl,zu⟩,⟨rfl,zu⟩,h⟩
      have T6:LI (KN w0) Tryz.prog A6 Q6 zBd:=fun t qq=>⟨e_fbv h522,e_bin (za rfl) ze (za rfl) (r_ar (LO e523)),e_op2 (za rfl) (za rfl) (za rfl) (fun W=>by rw [← e526];exact zdh (by kernel_rfl) s525 s527 W),e_bin (za rfl) ze (za rfl) (fun W X Y=>by rw [← e528];exact r_shr (by decide) W X Y),e_op1 (za rfl) (za rfl) (fun W=>by rw [← e529];exact r_cvi (by kernel_rfl) (by kernel_rfl) W),e_bin (za rfl) ze (za rfl) (zal (LO e530)),e_op1 (za rfl) (za rfl) (fun W=>by rw [← e531];exact r_cvi (by kernel_rfl) (by kernel_rfl) W),e_un (za rfl) (za rfl) (fun W=>by rw [← e532];exact r_neg W),e_bin (za rfl) (za rfl) (za rfl) (zal (LO e533)),T5 _ _⟩
      have hq:((v533)=o)∧((v526)=l2)∧True:=by
       refine ⟨?_,?_,trivial⟩
       all_goals (have dh502:=LD e501 h502;have dh508:=eq_of_beq (e507.trans h508);have dh510:=LE e509 h510;have dh514:=ne_of_beq_false (e513.trans h514);have dh522:=LD e521 h522;have hnk:n503=k:=(by omega);subst hnk;have hb:=s506;have hnb:¬ badB n503 b504:=(by unfold badB;omega);have x1:v516=((b504.toNat%128:Nat):Int):=(by rw [← e516,← e515,and8,wu64];omega);have x2:v517=((7*n503:Nat):Int):=(by rw [← e517,hi,wri (by omega)];omega);have x3:v520=((c+2 ^ (7*n503)*(b504.toNat%128):Nat):Int):=(by rw [← e520,← e519,x1,x2,hc];exact rd_or hJ hnb);have hs:b504.toNat<128:=(by omega);have hdn:=zcA hJ hb hnb hs;unfold decI at hO;rw [hdn] at hO;simp only [Option.map_some,Option.some.injEq,Prod.mk.injEq] at hO;obtain ⟨h3,h4⟩:=hO)
       ·rw [← h3,← zdX (zop hdn)]
        rw [Nat.mod_eq_of_lt hs] at x3
        rw [← x3]
        rw [← e533,← e532,← e531,← e530,← e529,← e528]
        rfl
       ·rw [← h4,← e526,show n524=n503+1 by (have:=e523;rw [hi,wri (by omega)] at this;omega)]
      obtain ⟨q0,q1,-⟩:=hq
      exact .inl (goes (x:=.r) (y:=.r) (Fb:=FQ (A6 []) [] (Q6 [])) (stb:=zO) (tl:=[.sl 0 (.o (.c (.p 0 0))),.sl 2 (yh 18),.sl 6 (.o (.c (.p 0 0))),.sl 7 (.o (.c (.k (.bool false)))),.sl 8 (.o (.c (.p 0 0))),.sl 9 (.o (.c (.p 0 0))),.sl 10 (.o (.c (.p 0 0))),.sl 11 (yh 0),.sl 12 (yh 1),.sl 13 (yh 2),.bx 0 62 [.h 14,.k (.bool false)]]) (C:=zBd) (H:=.no) 5000 (LZ ⟨z_c yy,z_c yy,z_c yy,z_c yy,z_c yy,z_c yy,z_c yy,z_c yy,z_c yy,z_c yy,z_c yy,z_b ⟨yy,yy,trivial⟩,trivial⟩) (zws (f6 [] trivial) trivial (fq6 [] trivial)) (T6 [] []) mixed hR trivial (fun _ _ _ hs=>by cases hs) (by kernel_rfl) rfl (LZ ⟨z_c yy,z_c (fun β v W h=>(zd u3 β v W).2 (by rw [← q0];exact h)),z_c yy,z_c yy,z_c yy,z_c yy,z_c yy,z_c (LV u0),z_c (LV u1),z_c (LV u2),z_b ⟨fun β v W h=>(zd u4 β v W).2 (by rw [← q1];exact h),yy,trivial⟩,trivial⟩))
     | false =>
      obtain ⟨v523,e523⟩:=LX (IntKind.i64.wrap (i+(1:Int)))
      let A7:=fun t=>A5 (pI v523::t)
      have f7:LA (KN w0) A7:=fun t h=>f5 _ ⟨zc,h⟩
      have T7:LI (KN w0) Tryz.prog A7 Q5 zBe:=fun t qq=>⟨e_fbv h522,e_bin (za rfl) ze (za rfl) (r_ar (LO e523)),T5 _ _⟩
      refine .inr ⟨⟨v520,v523⟩,?_,?_,goes (x:=.n) (y:=.n) (Fb:=FQ (A7 []) [] (Q5 [])) (stb:=zO) (tl:=[.sl 0 (.o (.c (.p 0 0))),.sl 3 (yh 5003),.sl 6 (.o (.c (.p 0 0))),.sl 7 (.o (.c (.k (.bool false)))),.sl 8 (.o (.c (.p 0 0))),.sl 9 (.o (.c (.p 0 0))),.sl 10 (.o (.c (.p 0 0))),.sl 11 (yh 0),.sl 12 (yh 1),.sl 13 (yh 2),.sl 14 (yh 13),.bx 0 62 [.h 0,.k (.bool false)]]) (C:=zBe) (H:=.no) 5000 (LZ ⟨z_c yy,z_c yy,z_c yy,z_c yy,z_c yy,z_c yy,z_c yy,z_c yy,z_c yy,z_c yy,z_c yy,z_b ⟨yy,yy,trivial⟩,trivial⟩) (zws (f7 [] trivial) trivial (fq5 [] trivial)) (T7 [] []) mixed hR trivial (fun _ _ _ hs=>by cases hs) (by kernel_rfl) rfl (LZ ⟨z_c yy,z_c (fun β v W h=>(zd rfl β v W).2 h),z_c yy,z_c yy,z_c yy,z_c yy,z_c yy,z_c yy,z_c yy,z_c yy,z_c (fun β v W h=>(zd rfl β v W).2 h),z_b ⟨yy,yy,trivial⟩,trivial⟩)⟩
      all_goals (have dh502:=LD e501 h502;have dh508:=eq_of_beq (e507.trans h508);have dh510:=LE e509 h510;have dh514:=ne_of_beq_false (e513.trans h514);have dh522:=LE e521 h522;have hnk:n503=k:=(by omega);subst hnk;have hb:=s506;have hnb:¬ badB n503 b504:=(by unfold badB;omega);have x1:v516=((b504.toNat%128:Nat):Int):=(by rw [← e516,← e515,and8,wu64];omega);have x2:v517=((7*n503:Nat):Int):=(by rw [← e517,hi,wri (by omega)];omega);have x3:v520=((c+2 ^ (7*n503)*(b504.toNat%128):Nat):Int):=(by rw [← e520,← e519,x1,x2,hc];exact rd_or hJ hnb);have x4:v523=((n503+1:Nat):Int):=(by rw [← e523,hi,wri (by omega)];omega);have hbl:=b504.toNat_lt)
      ·show (10 - v523).toNat<(10 - i).toNat
       omega
      ·exact ⟨n503+1,_,x4,(by rw [x3,show b504.toNat%128=b504.toNat - 128 by omega]),zcB hJ hb hnb (by omega)⟩
  | false =>
   obtain ⟨v509,e509⟩:=LX (decide (i > (0:Int)))
   let A8:=fun t=>A2 (pB v509::t)
   have f8:LA (KN w0) A8:=fun t h=>f2 _ ⟨zc,h⟩
   have T8:LI (KN w0) Tryz.prog A8 Q1 zAG:=fun t qq=>⟨e_fbv h508,e_bin (za rfl) ze (za rfl) (r_cmp (LO e509)),T2 _ _⟩
   cases h510:v509 with
   | true =>
    obtain ⟨v511,e511⟩:=LX (((b504.toNat:Int) == (0:Int)))
    let A9:=fun t=>A8 (pB v511::t)
    have f9:LA (KN w0) A9:=fun t h=>f8 _ ⟨zc,h⟩
    have T9:LI (KN w0) Tryz.prog A9 Q1 zBf:=fun t qq=>⟨e_fbv h510,e_bin (za rfl) ze (za rfl) (r_cmp (LO e511)),T8 _ _⟩
    cases h512:v511 with
    | true =>
     exfalso
     have dh502:=LD e501 h502;have dh508:=ne_of_beq_false (e507.trans h508);have dh510:=LD e509 h510;have dh512:=eq_of_beq (e511.trans h512)
     have hnk:n503=k:=(by omega)
     subst hnk
     have hb:=s506
     have hz:=zkB hJ hb (by unfold badB;omega)
     rw [hz] at hd
     cases hd
    | false =>
     obtain ⟨v513,e513⟩:=LX (IntKind.u8.wrap (BitVec.ofInt IntKind.u8.bits (b504.toNat:Int) &&& BitVec.ofInt IntKind.u8.bits (127:Int)).toNat)
     obtain ⟨v514,e514⟩:=LX (IntKind.u64.wrap v513)
     obtain ⟨v515,e515⟩:=LX (IntKind.i64.wrap ((7:Int)*i))
     have s516:0≤v515:=by (rw [← e515,hi,wri (by omega)];omega)
     obtain ⟨v517,e517⟩:=LX (IntKind.u64.wrap (v514*2 ^ min (v515:Int).toNat IntKind.u64.bits))
     obtain ⟨v518,e518⟩:=LX (IntKind.u64.wrap (BitVec.ofInt IntKind.u64.bits code ||| BitVec.ofInt IntKind.u64.bits v517).toNat)
     obtain ⟨v519,e519⟩:=LX (decide ((b504.toNat:Int)<(128:Int)))
     let A10:=fun t=>A9 (pV (.int .u8 v513)::pI v515::pB v519::t)
     have f10:LA (KN w0) A10:=fun t h=>f9 _ ⟨zc,zc,zc,h⟩
     let Q10:=fun t=>Q1 ((5001,pV (.int .u64 v514))::(5002,pV (.int .u64 v517))::(5003,pV (.int .u64 v518))::t)
     have fq10:LQ (KN w0) Q10:=fun t h=>fq1 _ ⟨⟨rfl,zu⟩,⟨rfl,zu⟩,⟨rfl,zu⟩,h⟩
     have T10:LI (KN w0) Tryz.prog A10 Q10 zz3:=fun t qq=>⟨e_fbv h512,e_bin (za rfl) ze (za rfl) (zal (LO e513)),e_op1 (za rfl) (za rfl) (fun W=>by rw [← e514];exact r_cvi (by kernel_rfl) (by kernel_rfl) W),e_bin ze (za rfl) (za rfl) (r_ar (LO e515)),e_bin (za rfl) (za rfl) (za rfl) (fun W X Y=>by rw [← e517];exact r_shl s516 W X Y),e_bin (za rfl) (za rfl) (za rfl) (zal (LO e518)),e_bin (za rfl) ze (za rfl) (r_cmp (LO e519)),T9 _ _⟩
     cases h520:v519 with
     | true =>
      obtain ⟨v521,e521⟩:=LX (IntKind.i64.wrap (i+(1:Int)))
      obtain ⟨n522,s523⟩:∃(n522:Nat),v521=(n522:Int):=by (refine ⟨k+1,?_⟩;rw [← e521,hi,wri (by omega)];omega)
      obtain ⟨v524,e524⟩:=LX ((l:List UInt8).drop n522)
      have s525:n522≤(l:List UInt8).length:=by (have dh502:=LD e501 h502;have dh508:=ne_of_beq_false (e507.trans h508);have dh510:=LD e509 h510;have dh512:=ne_of_beq_false (e511.trans h512);have dh520:=LD e519 h520;have hlt:k<l.length:=(by split at h2<;>omega);have:=e521;rw [hi,wri (by omega)] at this;omega)
      obtain ⟨v526,e526⟩:=LX ((v518:Int).fdiv (2 ^ min ((1:Int):Int).toNat IntKind.u64.bits))
      obtain ⟨v527,e527⟩:=LX (IntKind.i64.wrap v526)
      obtain ⟨v528,e528⟩:=LX (IntKind.u64.wrap (BitVec.ofInt IntKind.u64.bits v518 &&& BitVec.ofInt IntKind.u64.bits (1:Int)).toNat)
      obtain ⟨v529,e529⟩:=LX (IntKind.i64.wrap v528)
      obtain ⟨v530,e530⟩:=LX (IntKind.i64.wrap (0 - v529))
      obtain ⟨v531,e531⟩:=LX (IntKind.i64.wrap (BitVec.ofInt IntKind.i64.bits v527 ^^^ BitVec.ofInt IntKind.i64.bits v530).toNat)
      let A11:=fun t=>A10 (pI v521::pS v524::pI v527::pI v529::pI v530::pI v531::t)
      have f11:LA (KN w0) A11:=fun t h=>f10 _ ⟨zc,zc,zc,zc,zc,zc,h⟩
      let Q11:=fun t=>Q10 ((5004,pV (.int .u64 v526))::(5005,pV (.int .u64 v528))::t)
      have fq11:LQ (KN w0) Q11:=fun t h=>fq10 _ ⟨⟨rfl,zu⟩,⟨rfl,zu⟩,h⟩
      have T11:LI (KN w0) Tryz.prog A11 Q11 zAA:=fun t qq=>⟨e_fbv h520,e_bin (za rfl) ze (za rfl) (r_ar (LO e521)),e_op2 (za rfl) (za rfl) (za rfl) (fun W=>by rw [← e524];exact zdh (by kernel_rfl) s523 s525 W),e_bin (za rfl) ze (za rfl) (fun W X Y=>by rw [← e526];exact r_shr (by decide) W X Y),e_op1 (za rfl) (za rfl) (fun W=>by rw [← e527];exact r_cvi (by kernel_rfl) (by kernel_rfl) W),e_bin (za rfl) ze (za rfl) (zal (LO e528)),e_op1 (za rfl) (za rfl) (fun W=>by rw [← e529];exact r_cvi (by kernel_rfl) (by kernel_rfl) W),e_un (za rfl) (za rfl) (fun W=>by rw [← e530];exact r_neg W),e_bin (za rfl) (za rfl) (za rfl) (zal (LO e531)),T10 _ _⟩
      have hq:((v531)=o)∧((v524)=l2)∧True:=by
       refine ⟨?_,?_,trivial⟩
       all_goals (have dh502:=LD e501 h502;have dh508:=ne_of_beq_false (e507.trans h508);have dh510:=LD e509 h510;have dh512:=ne_of_beq_false (e511.trans h512);have dh520:=LD e519 h520;have hnk:n503=k:=(by omega);subst hnk;have hb:=s506;have hnb:¬ badB n503 b504:=(by unfold badB;omega);have x1:v514=((b504.toNat%128:Nat):Int):=(by rw [← e514,← e513,and8,wu64];omega);have x2:v515=((7*n503:Nat):Int):=(by rw [← e515,hi,wri (by omega)];omega);have x3:v518=((c+2 ^ (7*n503)*(b504.toNat%128):Nat):Int):=(by rw [← e518,← e517,x1,x2,hc];exact rd_or hJ hnb);have hs:b504.toNat<128:=(by omega);have hdn:=zcA hJ hb hnb hs;unfold decI at hO;rw [hdn] at hO;simp only [Option.map_some,Option.some.injEq,Prod.mk.injEq] at hO;obtain ⟨h3,h4⟩:=hO)
       ·rw [← h3,← zdX (zop hdn)]
        rw [Nat.mod_eq_of_lt hs] at x3
        rw [← x3]
        rw [← e531,← e530,← e529,← e528,← e527,← e526]
        rfl
       ·rw [← h4,← e524,show n522=n503+1 by (have:=e521;rw [hi,wri (by omega)] at this;omega)]
      obtain ⟨q0,q1,-⟩:=hq
      exact .inl (goes (x:=.r) (y:=.r) (Fb:=FQ (A11 []) [] (Q11 [])) (stb:=zO) (tl:=[.sl 0 (.o (.c (.p 0 0))),.sl 2 (yh 17),.sl 6 (.o (.c (.p 0 0))),.sl 7 (.o (.c (.k (.bool false)))),.sl 8 (.o (.c (.p 0 0))),.sl 9 (.o (.c (.p 0 0))),.sl 10 (.o (.c (.p 0 0))),.sl 11 (yh 0),.sl 12 (yh 1),.sl 13 (yh 2),.bx 0 62 [.h 13,.k (.bool false)]]) (C:=zAA) (H:=.no) 5000 (LZ ⟨z_c yy,z_c yy,z_c yy,z_c yy,z_c yy,z_c yy,z_c yy,z_c yy,z_c yy,z_c yy,z_c yy,z_b ⟨yy,yy,trivial⟩,trivial⟩) (zws (f11 [] trivial) trivial (fq11 [] trivial)) (T11 [] []) mixed hR trivial (fun _ _ _ hs=>by cases hs) (by kernel_rfl) rfl (LZ ⟨z_c yy,z_c (fun β v W h=>(zd u3 β v W).2 (by rw [← q0];exact h)),z_c yy,z_c yy,z_c yy,z_c yy,z_c yy,z_c (LV u0),z_c (LV u1),z_c (LV u2),z_b ⟨fun β v W h=>(zd u4 β v W).2 (by rw [← q1];exact h),yy,trivial⟩,trivial⟩))
     | false =>
      obtain ⟨v521,e521⟩:=LX (IntKind.i64.wrap (i+(1:Int)))
      let A12:=fun t=>A10 (pI v521::t)
      have f12:LA (KN w0) A12:=fun t h=>f10 _ ⟨zc,h⟩
      have T12:LI (KN w0) Tryz.prog A12 Q10 zAB:=fun t qq=>⟨e_fbv h520,e_bin (za rfl) ze (za rfl) (r_ar (LO e521)),T10 _ _⟩
      refine .inr ⟨⟨v518,v521⟩,?_,?_,goes (x:=.n) (y:=.n) (Fb:=FQ (A12 []) [] (Q10 [])) (stb:=zO) (tl:=[.sl 0 (.o (.c (.p 0 0))),.sl 3 (yh 5003),.sl 6 (.o (.c (.p 0 0))),.sl 7 (.o (.c (.k (.bool false)))),.sl 8 (.o (.c (.p 0 0))),.sl 9 (.o (.c (.p 0 0))),.sl 10 (.o (.c (.p 0 0))),.sl 11 (yh 0),.sl 12 (yh 1),.sl 13 (yh 2),.sl 14 (yh 12),.bx 0 62 [.h 0,.k (.bool false)]]) (C:=zAB) (H:=.no) 5000 (LZ ⟨z_c yy,z_c yy,z_c yy,z_c yy,z_c yy,z_c yy,z_c yy,z_c yy,z_c yy,z_c yy,z_c yy,z_b ⟨yy,yy,trivial⟩,trivial⟩) (zws (f12 [] trivial) trivial (fq10 [] trivial)) (T12 [] []) mixed hR trivial (fun _ _ _ hs=>by cases hs) (by kernel_rfl) rfl (LZ ⟨z_c yy,z_c (fun β v W h=>(zd rfl β v W).2 h),z_c yy,z_c yy,z_c yy,z_c yy,z_c yy,z_c yy,z_c yy,z_c yy,z_c (fun β v W h=>(zd rfl β v W).2 h),z_b ⟨yy,yy,trivial⟩,trivial⟩)⟩
      all_goals (have dh502:=LD e501 h502;have dh508:=ne_of_beq_false (e507.trans h508);have dh510:=LD e509 h510;have dh512:=ne_of_beq_false (e511.trans h512);have dh520:=LE e519 h520;have hnk:n503=k:=(by omega);subst hnk;have hb:=s506;have hnb:¬ badB n503 b504:=(by unfold badB;omega);have x1:v514=((b504.toNat%128:Nat):Int):=(by rw [← e514,← e513,and8,wu64];omega);have x2:v515=((7*n503:Nat):Int):=(by rw [← e515,hi,wri (by omega)];omega);have x3:v518=((c+2 ^ (7*n503)*(b504.toNat%128):Nat):Int):=(by rw [← e518,← e517,x1,x2,hc];exact rd_or hJ hnb);have x4:v521=((n503+1:Nat):Int):=(by rw [← e521,hi,wri (by omega)];omega);have hbl:=b504.toNat_lt)
      ·show (10 - v521).toNat<(10 - i).toNat
       omega
      ·exact ⟨n503+1,_,x4,(by rw [x3,show b504.toNat%128=b504.toNat - 128 by omega]),zcB hJ hb hnb (by omega)⟩
   | false =>
    obtain ⟨v511,e511⟩:=LX (IntKind.u8.wrap (BitVec.ofInt IntKind.u8.bits (b504.toNat:Int) &&& BitVec.ofInt IntKind.u8.bits (127:Int)).toNat)
    obtain ⟨v512,e512⟩:=LX (IntKind.u64.wrap v511)
    obtain ⟨v513,e513⟩:=LX (IntKind.i64.wrap ((7:Int)*i))
    have s514:0≤v513:=by (rw [← e513,hi,wri (by omega)];omega)
    obtain ⟨v515,e515⟩:=LX (IntKind.u64.wrap (v512*2 ^ min (v513:Int).toNat IntKind.u64.bits))
    obtain ⟨v516,e516⟩:=LX (IntKind.u64.wrap (BitVec.ofInt IntKind.u64.bits code ||| BitVec.ofInt IntKind.u64.bits v515).toNat)
    obtain ⟨v517,e517⟩:=LX (decide ((b504.toNat:Int)<(128:Int)))
    let A13:=fun t=>A8 (pV (.int .u8 v511)::pI v513::pB v517::t)
    have f13:LA (KN w0) A13:=fun t h=>f8 _ ⟨zc,zc,zc,h⟩
    let Q13:=fun t=>Q1 ((5001,pV (.int .u64 v512))::(5002,pV (.int .u64 v515))::(5003,pV (.int .u64 v516))::t)
    have fq13:LQ (KN w0) Q13:=fun t h=>fq1 _ ⟨⟨rfl,zu⟩,⟨rfl,zu⟩,⟨rfl,zu⟩,h⟩
    have T13:LI (KN w0) Tryz.prog A13 Q13 zz4:=fun t qq=>⟨e_fbv h510,e_bin (za rfl) ze (za rfl) (zal (LO e511)),e_op1 (za rfl) (za rfl) (fun W=>by rw [← e512];exact r_cvi (by kernel_rfl) (by kernel_rfl) W),e_bin ze (za rfl) (za rfl) (r_ar (LO e513)),e_bin (za rfl) (za rfl) (za rfl) (fun W X Y=>by rw [← e515];exact r_shl s514 W X Y),e_bin (za rfl) (za rfl) (za rfl) (zal (LO e516)),e_bin (za rfl) ze (za rfl) (r_cmp (LO e517)),T8 _ _⟩
    cases h518:v517 with
    | true =>
     obtain ⟨v519,e519⟩:=LX (IntKind.i64.wrap (i+(1:Int)))
     obtain ⟨n520,s521⟩:∃(n520:Nat),v519=(n520:Int):=by (refine ⟨k+1,?_⟩;rw [← e519,hi,wri (by omega)];omega)
     obtain ⟨v522,e522⟩:=LX ((l:List UInt8).drop n520)
     have s523:n520≤(l:List UInt8).length:=by (have dh502:=LD e501 h502;have dh508:=ne_of_beq_false (e507.trans h508);have dh510:=LE e509 h510;have dh518:=LD e517 h518;have hlt:k<l.length:=(by split at h2<;>omega);have:=e519;rw [hi,wri (by omega)] at this;omega)
     obtain ⟨v524,e524⟩:=LX ((v516:Int).fdiv (2 ^ min ((1:Int):Int).toNat IntKind.u64.bits))
     obtain ⟨v525,e525⟩:=LX (IntKind.i64.wrap v524)
     obtain ⟨v526,e526⟩:=LX (IntKind.u64.wrap (BitVec.ofInt IntKind.u64.bits v516 &&& BitVec.ofInt IntKind.u64.bits (1:Int)).toNat)
     obtain ⟨v527,e527⟩:=LX (IntKind.i64.wrap v526)
     obtain ⟨v528,e528⟩:=LX (IntKind.i64.wrap (0 - v527))
     obtain ⟨v529,e529⟩:=LX (IntKind.i64.wrap (BitVec.ofInt IntKind.i64.bits v525 ^^^ BitVec.ofInt IntKind.i64.bits v528).toNat)
     let A14:=fun t=>A13 (pI v519::pS v522::pI v525::pI v527::pI v528::pI v529::t)
     have f14:LA (KN w0) A14:=fun t h=>f13 _ ⟨zc,zc,zc,zc,zc,zc,h⟩
     let Q14:=fun t=>Q13 ((5004,pV (.int .u64 v524))::(5005,pV (.int .u64 v526))::t)
     have fq14:LQ (KN w0) Q14:=fun t h=>fq13 _ ⟨⟨rfl,zu⟩,⟨rfl,zu⟩,h⟩
     have T14:LI (KN w0) Tryz.prog A14 Q14 zAC:=fun t qq=>⟨e_fbv h518,e_bin (za rfl) ze (za rfl) (r_ar (LO e519)),e_op2 (za rfl) (za rfl) (za rfl) (fun W=>by rw [← e522];exact zdh (by kernel_rfl) s521 s523 W),e_bin (za rfl) ze (za rfl) (fun W X Y=>by rw [← e524];exact r_shr (by decide) W X Y),e_op1 (za rfl) (za rfl) (fun W=>by rw [← e525];exact r_cvi (by kernel_rfl) (by kernel_rfl) W),e_bin (za rfl) ze (za rfl) (zal (LO e526)),e_op1 (za rfl) (za rfl) (fun W=>by rw [← e527];exact r_cvi (by kernel_rfl) (by kernel_rfl) W),e_un (za rfl) (za rfl) (fun W=>by rw [← e528];exact r_neg W),e_bin (za rfl) (za rfl) (za rfl) (zal (LO e529)),T13 _ _⟩
     have hq:((v529)=o)∧((v522)=l2)∧True:=by
      refine ⟨?_,?_,trivial⟩
      all_goals (have dh502:=LD e501 h502;have dh508:=ne_of_beq_false (e507.trans h508);have dh510:=LE e509 h510;have dh518:=LD e517 h518;have hnk:n503=k:=(by omega);subst hnk;have hb:=s506;have hnb:¬ badB n503 b504:=(by unfold badB;omega);have x1:v512=((b504.toNat%128:Nat):Int):=(by rw [← e512,← e511,and8,wu64];omega);have x2:v513=((7*n503:Nat):Int):=(by rw [← e513,hi,wri (by omega)];omega);have x3:v516=((c+2 ^ (7*n503)*(b504.toNat%128):Nat):Int):=(by rw [← e516,← e515,x1,x2,hc];exact rd_or hJ hnb);have hs:b504.toNat<128:=(by omega);have hdn:=zcA hJ hb hnb hs;unfold decI at hO;rw [hdn] at hO;simp only [Option.map_some,Option.some.injEq,Prod.mk.injEq] at hO;obtain ⟨h3,h4⟩:=hO)
      ·rw [← h3,← zdX (zop hdn)]
       rw [Nat.mod_eq_of_lt hs] at x3
       rw [← x3]
       rw [← e529,← e528,← e527,← e526,← e525,← e524]
       rfl
      ·rw [← h4,← e522,show n520=n503+1 by (have:=e519;rw [hi,wri (by omega)] at this;omega)]
     obtain ⟨q0,q1,-⟩:=hq
     exact .inl (goes (x:=.r) (y:=.r) (Fb:=FQ (A14 []) [] (Q14 [])) (stb:=zO) (tl:=[.sl 0 (.o (.c (.p 0 0))),.sl 2 (yh 16),.sl 6 (.o (.c (.p 0 0))),.sl 7 (.o (.c (.k (.bool false)))),.sl 8 (.o (.c (.p 0 0))),.sl 9 (.o (.c (.p 0 0))),.sl 10 (.o (.c (.p 0 0))),.sl 11 (yh 0),.sl 12 (yh 1),.sl 13 (yh 2),.bx 0 62 [.h 12,.k (.bool false)]]) (C:=zAC) (H:=.no) 5000 (LZ ⟨z_c yy,z_c yy,z_c yy,z_c yy,z_c yy,z_c yy,z_c yy,z_c yy,z_c yy,z_c yy,z_c yy,z_b ⟨yy,yy,trivial⟩,trivial⟩) (zws (f14 [] trivial) trivial (fq14 [] trivial)) (T14 [] []) mixed hR trivial (fun _ _ _ hs=>by cases hs) (by kernel_rfl) rfl (LZ ⟨z_c yy,z_c (fun β v W h=>(zd u3 β v W).2 (by rw [← q0];exact h)),z_c yy,z_c yy,z_c yy,z_c yy,z_c yy,z_c (LV u0),z_c (LV u1),z_c (LV u2),z_b ⟨fun β v W h=>(zd u4 β v W).2 (by rw [← q1];exact h),yy,trivial⟩,trivial⟩))
    | false =>
     obtain ⟨v519,e519⟩:=LX (IntKind.i64.wrap (i+(1:Int)))
     let A15:=fun t=>A13 (pI v519::t)
     have f15:LA (KN w0) A15:=fun t h=>f13 _ ⟨zc,h⟩
     have T15:LI (KN w0) Tryz.prog A15 Q13 zAD:=fun t qq=>⟨e_fbv h518,e_bin (za rfl) ze (za rfl) (r_ar (LO e519)),T13 _ _⟩
     refine .inr ⟨⟨v516,v519⟩,?_,?_,goes (x:=.n) (y:=.n) (Fb:=FQ (A15 []) [] (Q13 [])) (stb:=zO) (tl:=[.sl 0 (.o (.c (.p 0 0))),.sl 3 (yh 5003),.sl 6 (.o (.c (.p 0 0))),.sl 7 (.o (.c (.k (.bool false)))),.sl 8 (.o (.c (.p 0 0))),.sl 9 (.o (.c (.p 0 0))),.sl 10 (.o (.c (.p 0 0))),.sl 11 (yh 0),.sl 12 (yh 1),.sl 13 (yh 2),.sl 14 (yh 11),.bx 0 62 [.h 0,.k (.bool false)]]) (C:=zAD) (H:=.no) 5000 (LZ ⟨z_c yy,z_c yy,z_c yy,z_c yy,z_c yy,z_c yy,z_c yy,z_c yy,z_c yy,z_c yy,z_c yy,z_b ⟨yy,yy,trivial⟩,trivial⟩) (zws (f15 [] trivial) trivial (fq13 [] trivial)) (T15 [] []) mixed hR trivial (fun _ _ _ hs=>by cases hs) (by kernel_rfl) rfl (LZ ⟨z_c yy,z_c (fun β v W h=>(zd rfl β v W).2 h),z_c yy,z_c yy,z_c yy,z_c yy,z_c yy,z_c yy,z_c yy,z_c yy,z_c (fun β v W h=>(zd rfl β v W).2 h),z_b ⟨yy,yy,trivial⟩,trivial⟩)⟩
     all_goals (have dh502:=LD e501 h502;have dh508:=ne_of_beq_false (e507.trans h508);have dh510:=LE e509 h510;have dh518:=LE e517 h518;have hnk:n503=k:=(by omega);subst hnk;have hb:=s506;have hnb:¬ badB n503 b504:=(by unfold badB;omega);have x1:v512=((b504.toNat%128:Nat):Int):=(by rw [← e512,← e511,and8,wu64];omega);have x2:v513=((7*n503:Nat):Int):=(by rw [← e513,hi,wri (by omega)];omega);have x3:v516=((c+2 ^ (7*n503)*(b504.toNat%128):Nat):Int):=(by rw [← e516,← e515,x1,x2,hc];exact rd_or hJ hnb);have x4:v519=((n503+1:Nat):Int):=(by rw [← e519,hi,wri (by omega)];omega);have hbl:=b504.toNat_lt)
     ·show (10 - v519).toNat<(10 - i).toNat
      omega
     ·exact ⟨n503+1,_,x4,(by rw [x3,show b504.toNat%128=b504.toNat - 128 by omega]),zcB hJ hb hnb (by omega)⟩
 | false =>
  exfalso
  have dh502:=LE e501 h502
  have hz:=zt8 hJ (by split at h2<;>omega)
  rw [hz] at hd
  cases hd
structure wrB_T where
 code:Int
 i:Int
def zxr:List Atom:=[.sl 0 (.o (.c (.p 0 0))),.sl 3 (yh 5000),.sl 6 (.o (.c (.p 0 0))),.sl 7 (.o (.c (.k (.bool false)))),.sl 8 (.o (.c (.p 0 0))),.sl 9 (.o (.c (.p 0 0))),.sl 10 (.o (.c (.p 0 0))),.sl 11 (yh 0),.sl 12 (yh 1),.sl 13 (yh 2),.sl 14 (yh 3),.bx 0 62 [.h 0,.k (.bool false)]]
def wrB_S:LoopS:=⟨5,[.sl 0 (.o (.c (.p 0 0))),.sl 3 (.o (.c (.k (.int .u64 0)))),.sl 6 (.o (.c (.p 0 0))),.sl 7 (.o (.c (.k (.bool false)))),.sl 8 (.o (.c (.p 0 0))),.sl 9 (.o (.c (.p 0 0))),.sl 10 (.o (.c (.p 0 0))),.sl 11 (yh 0),.sl 12 (yh 1),.sl 13 (yh 2),.sl 14 (.o (.c (.k (.int .i64 0)))),.bx 0 62 [.h 0,.k (.bool false)]],(.x 0),[.sl 0 (.o (.c (.p 0 0))),.sl 6 (.o (.c (.p 0 0))),.sl 7 (.o (.c (.k (.bool false)))),.sl 8 (.o (.c (.p 0 0))),.sl 9 (.o (.c (.p 0 0))),.sl 10 (.o (.c (.p 0 0))),.sl 11 (yh 0),.sl 12 (yh 1),.sl 13 (yh 2),.bx 0 62 [.h 0,.k (.bool false)]]⟩
abbrev zAH:List (Nat×Ent):=(1005000,.bin .lss 3 (yh 3) (yh 2) (yh 4))::[]
abbrev zAO:List (Nat×Ent):=(10004,.fb 4 true)::(1005008,.op (.ix 9) [yh 0,yh 3] [] (yh 5))::(1005011,.bin .eql 3 (yh 3) (LF (.k (.int .i64 9))) (yh 6))::zAH
abbrev zAP:List (Nat×Ent):=(10006,.fb 6 true)::(1005014,.bin .gtr 5 (yh 5) (LF (.k (.int .u8 1))) (yh 7))::zAO
abbrev zBg:List (Nat×Ent):=(10007,.fb 7 true)::zAP
abbrev zAQ:List (Nat×Ent):=(10007,.fb 7 false)::(1005018,.bin .gtr 3 (yh 3) (LF (.k (.int .i64 0))) (yh 8))::(10008,.fb 8 true)::(1005021,.bin .eql 5 (yh 5) (LF (.k (.int .u8 0))) (yh 9))::zAP
abbrev zBh:List (Nat×Ent):=(10009,.fb 9 true)::zAQ
abbrev zBi:List (Nat×Ent):=(10009,.fb 9 false)::(1005026,.bin .and 5 (yh 5) (LF (.k (.int .u8 127))) (yh 10))::(1005027,.op (.cv 5 72) [yh 10] [] (yh 5001))::(1005029,.bin .mul 3 (LF (.k (.int .i64 7))) (yh 3) (yh 11))::(1005030,.bin .shl 72 (yh 5001) (yh 11) (yh 5002))::(1005031,.bin .or 72 (yh 5000) (yh 5002) (yh 5003))::(1005034,.bin .lss 5 (yh 5) (LF (.k (.int .u8 128))) (yh 12))::zAQ
abbrev zBj:List (Nat×Ent):=(10012,.fb 12 false)::(1005035,.bin .add 3 (yh 3) (LF (.k (.int .i64 1))) (yh 13))::zBi
abbrev zAR:List (Nat×Ent):=(10006,.fb 6 false)::(1005018,.bin .gtr 3 (yh 3) (LF (.k (.int .i64 0))) (yh 7))::zAO
abbrev zz5:List (Nat×Ent):=(10007,.fb 7 true)::(1005021,.bin .eql 5 (yh 5) (LF (.k (.int .u8 0))) (yh 8))::zAR
abbrev zAI:List (Nat×Ent):=(10008,.fb 8 true)::zz5
abbrev zAJ:List (Nat×Ent):=(10008,.fb 8 false)::(1005026,.bin .and 5 (yh 5) (LF (.k (.int .u8 127))) (yh 9))::(1005027,.op (.cv 5 72) [yh 9] [] (yh 5001))::(1005029,.bin .mul 3 (LF (.k (.int .i64 7))) (yh 3) (yh 10))::(1005030,.bin .shl 72 (yh 5001) (yh 10) (yh 5002))::(1005031,.bin .or 72 (yh 5000) (yh 5002) (yh 5003))::(1005034,.bin .lss 5 (yh 5) (LF (.k (.int .u8 128))) (yh 11))::zz5
abbrev zAK:List (Nat×Ent):=(10011,.fb 11 false)::(1005035,.bin .add 3 (yh 3) (LF (.k (.int .i64 1))) (yh 12))::zAJ
abbrev zAL:List (Nat×Ent):=(10007,.fb 7 false)::(1005026,.bin .and 5 (yh 5) (LF (.k (.int .u8 127))) (yh 8))::(1005027,.op (.cv 5 72) [yh 8] [] (yh 5001))::(1005029,.bin .mul 3 (LF (.k (.int .i64 7))) (yh 3) (yh 9))::(1005030,.bin .shl 72 (yh 5001) (yh 9) (yh 5002))::(1005031,.bin .or 72 (yh 5000) (yh 5002) (yh 5003))::(1005034,.bin .lss 5 (yh 5) (LF (.k (.int .u8 128))) (yh 10))::zAR
abbrev zAM:List (Nat×Ent):=(10010,.fb 10 false)::(1005035,.bin .add 3 (yh 3) (LF (.k (.int .i64 1))) (yh 11))::zAL
abbrev zAN:List (Nat×Ent):=(10004,.fb 4 false)::zAH
theorem zwk {w0:World} (l:(List UInt8)) (v1:Int) (v2:Int) {F:Fact} (u0:F.c 0=pS l) (u1:F.c 1=pI v1) (u2:F.c 2=pI v2) (R:Frm) (hR:R.pm=⟨ntOf Tryz.prog 36,[0],[]⟩) (h1:((l:List UInt8).length:Int)=v1) (h2:(if v1<(10:Int) then v1 else (10:Int))=v2) (hd:¬ (decGo 0 l).isSome=true):zj (KN w0) Tryz.prog F R wrB_S (lp Tryz.prog 36 0):=by
 refine zG (T:=wrB_T) (fun t=>FL [pS l,pI v1,pI v2,pI t.i] [] [(5000,pV (.int .u64 t.code))]) (fun ⟨code,i⟩=>∃k c:Nat,i=(k:Int)∧code=(c:Int)∧RdJ l k c) (fun ⟨code,i⟩=>(10 - i).toNat) { code:=(0:Int),i:=(0:Int) } zxr ⟨0,0,rfl,rfl,ziv l⟩ (LZ ⟨z_c yy,z_c yy,z_c yy,z_c yy,z_c yy,z_c yy,z_c yy,z_c (LU u0),z_c (LU u1),z_c (LU u2),z_c yy,z_b ⟨LU u0,yy,trivial⟩,trivial⟩) rfl fun t hJ=>?_
 obtain ⟨code,i⟩:=t
 dsimp only at hJ
 obtain ⟨k,c,hi,hc,hJ⟩:=hJ
 have hk9:=hJ.1
 obtain ⟨v501,e501⟩:=LX (decide (i<v2))
 let A1:List Pred→List Pred:=fun t=>pS l::pI v1::pI v2::pI i::pB v501::t
 have f1:LA (KN w0) A1:=fun t h=>⟨zc,zc,zc,zc,zc,h⟩
 let Q1:List (Nat×Pred)→List (Nat×Pred):=fun t=>(5000,pV (.int .u64 code))::t
 have fq1:LQ (KN w0) Q1:=fun t h=>⟨⟨rfl,zu⟩,h⟩
 have T1:LI (KN w0) Tryz.prog A1 Q1 zAH:=fun t qq=>⟨e_bin (za rfl) (za rfl) (za rfl) (r_cmp (LO e501)),trivial⟩
 cases h502:v501 with
 | true =>
  obtain ⟨n503,b504,s505,s506⟩:∃(n503:Nat) (b504:UInt8),i=(n503:Int)∧(l:List UInt8)[n503]?=some b504:=by (have dh502:=LD e501 h502;have hlt:k<l.length:=(by split at h2<;>omega);exact ⟨k,l[k],hi,List.getElem?_eq_getElem hlt⟩)
  obtain ⟨v507,e507⟩:=LX ((i == (9:Int)))
  let A2:=fun t=>A1 (pV (.int .u8 (b504.toNat:Int))::pB v507::t)
  have f2:LA (KN w0) A2:=fun t h=>f1 _ ⟨zc,zc,h⟩
  have T2:LI (KN w0) Tryz.prog A2 Q1 zAO:=fun t qq=>⟨e_fbv h502,e_op2 (za rfl) (za rfl) (za rfl) (r_ix (by kernel_rfl) s505 s506),e_bin (za rfl) ze (za rfl) (r_cmp (LO e507)),T1 _ _⟩
  cases h508:v507 with
  | true =>
   obtain ⟨v509,e509⟩:=LX (decide ((b504.toNat:Int) > (1:Int)))
   let A3:=fun t=>A2 (pB v509::t)
   have f3:LA (KN w0) A3:=fun t h=>f2 _ ⟨zc,h⟩
   have T3:LI (KN w0) Tryz.prog A3 Q1 zAP:=fun t qq=>⟨e_fbv h508,e_bin (za rfl) ze (za rfl) (r_cmp (LO e509)),T2 _ _⟩
   cases h510:v509 with
   | true =>
    have T4:LI (KN w0) Tryz.prog A3 Q1 zBg:=fun t qq=>⟨e_fbv h510,T3 _ _⟩
    exact .inl (goes (x:=(.x 0)) (y:=(.x 0)) (Fb:=FQ (A3 []) [] (Q1 [])) (stb:=zxr) (tl:=[.sl 0 (.o (.c (.p 0 0))),.sl 6 (.o (.c (.p 0 0))),.sl 7 (.o (.c (.k (.bool false)))),.sl 8 (.o (.c (.p 0 0))),.sl 9 (.o (.c (.p 0 0))),.sl 10 (.o (.c (.p 0 0))),.sl 11 (yh 0),.sl 12 (yh 1),.sl 13 (yh 2),.bx 0 62 [.h 0,.k (.bool false)]]) (C:=zBg) (H:=.no) 5000 (LZ ⟨z_c yy,z_c yy,z_c yy,z_c yy,z_c yy,z_c yy,z_c yy,z_c yy,z_c yy,z_c yy,z_c yy,z_b ⟨yy,yy,trivial⟩,trivial⟩) (zws (f3 [] trivial) trivial (fq1 [] trivial)) (T4 [] []) mixed hR trivial (fun _ _ _ hs=>by cases hs) (by kernel_rfl) rfl (LZ ⟨z_c yy,z_c yy,z_c yy,z_c yy,z_c yy,z_c yy,z_c (LV u0),z_c (LV u1),z_c (LV u2),z_b ⟨LV u0,yy,trivial⟩,trivial⟩))
   | false =>
    obtain ⟨v511,e511⟩:=LX (decide (i > (0:Int)))
    have s512:v511=true:=by (have dh502:=LD e501 h502;have dh508:=eq_of_beq (e507.trans h508);have dh510:=LE e509 h510;rw [← e511];exact decide_eq_true (by omega))
    obtain ⟨v513,e513⟩:=LX (((b504.toNat:Int) == (0:Int)))
    let A5:=fun t=>A3 (pB v511::pB v513::t)
    have f5:LA (KN w0) A5:=fun t h=>f3 _ ⟨zc,zc,h⟩
    have T5:LI (KN w0) Tryz.prog A5 Q1 zAQ:=fun t qq=>⟨e_fbv h510,e_bin (za rfl) ze (za rfl) (r_cmp (LO e511)),e_fbv s512,e_bin (za rfl) ze (za rfl) (r_cmp (LO e513)),T3 _ _⟩
    cases h514:v513 with
    | true =>
     have T6:LI (KN w0) Tryz.prog A5 Q1 zBh:=fun t qq=>⟨e_fbv h514,T5 _ _⟩
     exact .inl (goes (x:=(.x 0)) (y:=(.x 0)) (Fb:=FQ (A5 []) [] (Q1 [])) (stb:=zxr) (tl:=[.sl 0 (.o (.c (.p 0 0))),.sl 6 (.o (.c (.p 0 0))),.sl 7 (.o (.c (.k (.bool false)))),.sl 8 (.o (.c (.p 0 0))),.sl 9 (.o (.c (.p 0 0))),.sl 10 (.o (.c (.p 0 0))),.sl 11 (yh 0),.sl 12 (yh 1),.sl 13 (yh 2),.bx 0 62 [.h 0,.k (.bool false)]]) (C:=zBh) (H:=.no) 5000 (LZ ⟨z_c yy,z_c yy,z_c yy,z_c yy,z_c yy,z_c yy,z_c yy,z_c yy,z_c yy,z_c yy,z_c yy,z_b ⟨yy,yy,trivial⟩,trivial⟩) (zws (f5 [] trivial) trivial (fq1 [] trivial)) (T6 [] []) mixed hR trivial (fun _ _ _ hs=>by cases hs) (by kernel_rfl) rfl (LZ ⟨z_c yy,z_c yy,z_c yy,z_c yy,z_c yy,z_c yy,z_c (LV u0),z_c (LV u1),z_c (LV u2),z_b ⟨LV u0,yy,trivial⟩,trivial⟩))
    | false =>
     obtain ⟨v515,e515⟩:=LX (IntKind.u8.wrap (BitVec.ofInt IntKind.u8.bits (b504.toNat:Int) &&& BitVec.ofInt IntKind.u8.bits (127:Int)).toNat)
     obtain ⟨v516,e516⟩:=LX (IntKind.u64.wrap v515)
     obtain ⟨v517,e517⟩:=LX (IntKind.i64.wrap ((7:Int)*i))
     have s518:0≤v517:=by (rw [← e517,hi,wri (by omega)];omega)
     obtain ⟨v519,e519⟩:=LX (IntKind.u64.wrap (v516*2 ^ min (v517:Int).toNat IntKind.u64.bits))
     obtain ⟨v520,e520⟩:=LX (IntKind.u64.wrap (BitVec.ofInt IntKind.u64.bits code ||| BitVec.ofInt IntKind.u64.bits v519).toNat)
     obtain ⟨v521,e521⟩:=LX (decide ((b504.toNat:Int)<(128:Int)))
     let A7:=fun t=>A5 (pV (.int .u8 v515)::pI v517::pB v521::t)
     have f7:LA (KN w0) A7:=fun t h=>f5 _ ⟨zc,zc,zc,h⟩
     let Q7:=fun t=>Q1 ((5001,pV (.int .u64 v516))::(5002,pV (.int .u64 v519))::(5003,pV (.int .u64 v520))::t)
     have fq7:LQ (KN w0) Q7:=fun t h=>fq1 _ ⟨⟨rfl,zu⟩,⟨rfl,zu⟩,⟨rfl,zu⟩,h⟩
     have T7:LI (KN w0) Tryz.prog A7 Q7 zBi:=fun t qq=>⟨e_fbv h514,e_bin (za rfl) ze (za rfl) (zal (LO e515)),e_op1 (za rfl) (za rfl) (fun W=>by rw [← e516];exact r_cvi (by kernel_rfl) (by kernel_rfl) W),e_bin ze (za rfl) (za rfl) (r_ar (LO e517)),e_bin (za rfl) (za rfl) (za rfl) (fun W X Y=>by rw [← e519];exact r_shl s518 W X Y),e_bin (za rfl) (za rfl) (za rfl) (zal (LO e520)),e_bin (za rfl) ze (za rfl) (r_cmp (LO e521)),T5 _ _⟩
     cases h522:v521 with
     | true =>
      obtain ⟨v523,e523⟩:=LX (IntKind.i64.wrap (i+(1:Int)))
      obtain ⟨n524,s525⟩:∃(n524:Nat),v523=(n524:Int):=by (refine ⟨k+1,?_⟩;rw [← e523,hi,wri (by omega)];omega)
      obtain ⟨v526,e526⟩:=LX ((l:List UInt8).drop n524)
      have s527:n524≤(l:List UInt8).length:=by (have dh502:=LD e501 h502;have dh508:=eq_of_beq (e507.trans h508);have dh510:=LE e509 h510;have dh514:=ne_of_beq_false (e513.trans h514);have dh522:=LD e521 h522;have hlt:k<l.length:=(by split at h2<;>omega);have:=e523;rw [hi,wri (by omega)] at this;omega)
      obtain ⟨v528,e528⟩:=LX ((v520:Int).fdiv (2 ^ min ((1:Int):Int).toNat IntKind.u64.bits))
      obtain ⟨v529,e529⟩:=LX (IntKind.i64.wrap v528)
      obtain ⟨v530,e530⟩:=LX (IntKind.u64.wrap (BitVec.ofInt IntKind.u64.bits v520 &&& BitVec.ofInt IntKind.u64.bits (1:Int)).toNat)
      obtain ⟨v531,e531⟩:=LX (IntKind.i64.wrap v530)
      obtain ⟨v532,e532⟩:=LX (IntKind.i64.wrap (0 - v531))
      obtain ⟨v533,e533⟩:=LX (IntKind.i64.wrap (BitVec.ofInt IntKind.i64.bits v529 ^^^ BitVec.ofInt IntKind.i64.bits v532).toNat)
      exfalso
      have dh502:=LD e501 h502;have dh508:=eq_of_beq (e507.trans h508);have dh510:=LE e509 h510;have dh514:=ne_of_beq_false (e513.trans h514);have dh522:=LD e521 h522
      have hnk:n503=k:=(by omega)
      subst hnk
      have hb:=s506
      have hnb:¬ badB n503 b504:=(by unfold badB;omega)
      have x1:v516=((b504.toNat%128:Nat):Int):=(by rw [← e516,← e515,and8,wu64];omega)
      have x2:v517=((7*n503:Nat):Int):=(by rw [← e517,hi,wri (by omega)];omega)
      have x3:v520=((c+2 ^ (7*n503)*(b504.toNat%128):Nat):Int):=(by rw [← e520,← e519,x1,x2,hc];exact rd_or hJ hnb)
      have hs:b504.toNat<128:=(by omega)
      have hdn:=zcA hJ hb hnb hs
      exact hd (by rw [hdn];rfl)
     | false =>
      obtain ⟨v523,e523⟩:=LX (IntKind.i64.wrap (i+(1:Int)))
      let A8:=fun t=>A7 (pI v523::t)
      have f8:LA (KN w0) A8:=fun t h=>f7 _ ⟨zc,h⟩
      have T8:LI (KN w0) Tryz.prog A8 Q7 zBj:=fun t qq=>⟨e_fbv h522,e_bin (za rfl) ze (za rfl) (r_ar (LO e523)),T7 _ _⟩
      refine .inr ⟨⟨v520,v523⟩,?_,?_,goes (x:=.n) (y:=.n) (Fb:=FQ (A8 []) [] (Q7 [])) (stb:=zxr) (tl:=[.sl 0 (.o (.c (.p 0 0))),.sl 3 (yh 5003),.sl 6 (.o (.c (.p 0 0))),.sl 7 (.o (.c (.k (.bool false)))),.sl 8 (.o (.c (.p 0 0))),.sl 9 (.o (.c (.p 0 0))),.sl 10 (.o (.c (.p 0 0))),.sl 11 (yh 0),.sl 12 (yh 1),.sl 13 (yh 2),.sl 14 (yh 13),.bx 0 62 [.h 0,.k (.bool false)]]) (C:=zBj) (H:=.no) 5000 (LZ ⟨z_c yy,z_c yy,z_c yy,z_c yy,z_c yy,z_c yy,z_c yy,z_c yy,z_c yy,z_c yy,z_c yy,z_b ⟨yy,yy,trivial⟩,trivial⟩) (zws (f8 [] trivial) trivial (fq7 [] trivial)) (T8 [] []) mixed hR trivial (fun _ _ _ hs=>by cases hs) (by kernel_rfl) rfl (LZ ⟨z_c yy,z_c (fun β v W h=>(zd rfl β v W).2 h),z_c yy,z_c yy,z_c yy,z_c yy,z_c yy,z_c yy,z_c yy,z_c yy,z_c (fun β v W h=>(zd rfl β v W).2 h),z_b ⟨yy,yy,trivial⟩,trivial⟩)⟩
      all_goals (have dh502:=LD e501 h502;have dh508:=eq_of_beq (e507.trans h508);have dh510:=LE e509 h510;have dh514:=ne_of_beq_false (e513.trans h514);have dh522:=LE e521 h522;have hnk:n503=k:=(by omega);subst hnk;have hb:=s506;have hnb:¬ badB n503 b504:=(by unfold badB;omega);have x1:v516=((b504.toNat%128:Nat):Int):=(by rw [← e516,← e515,and8,wu64];omega);have x2:v517=((7*n503:Nat):Int):=(by rw [← e517,hi,wri (by omega)];omega);have x3:v520=((c+2 ^ (7*n503)*(b504.toNat%128):Nat):Int):=(by rw [← e520,← e519,x1,x2,hc];exact rd_or hJ hnb);have x4:v523=((n503+1:Nat):Int):=(by rw [← e523,hi,wri (by omega)];omega);have hbl:=b504.toNat_lt)
      ·show (10 - v523).toNat<(10 - i).toNat
       omega
      ·exact ⟨n503+1,_,x4,(by rw [x3,show b504.toNat%128=b504.toNat - 128 by omega]),zcB hJ hb hnb (by omega)⟩
  | false =>
   obtain ⟨v509,e509⟩:=LX (decide (i > (0:Int)))
   let A9:=fun t=>A2 (pB v509::t)
   have f9:LA (KN w0) A9:=fun t h=>f2 _ ⟨zc,h⟩
   have T9:LI (KN w0) Tryz.prog A9 Q1 zAR:=fun t qq=>⟨e_fbv h508,e_bin (za rfl) ze (za rfl) (r_cmp (LO e509)),T2 _ _⟩
   cases h510:v509 with
   | true =>
    obtain ⟨v511,e511⟩:=LX (((b504.toNat:Int) == (0:Int)))
    let A10:=fun t=>A9 (pB v511::t)
    have f10:LA (KN w0) A10:=fun t h=>f9 _ ⟨zc,h⟩
    have T10:LI (KN w0) Tryz.prog A10 Q1 zz5:=fun t qq=>⟨e_fbv h510,e_bin (za rfl) ze (za rfl) (r_cmp (LO e511)),T9 _ _⟩
    cases h512:v511 with
    | true =>
     have T11:LI (KN w0) Tryz.prog A10 Q1 zAI:=fun t qq=>⟨e_fbv h512,T10 _ _⟩
     exact .inl (goes (x:=(.x 0)) (y:=(.x 0)) (Fb:=FQ (A10 []) [] (Q1 [])) (stb:=zxr) (tl:=[.sl 0 (.o (.c (.p 0 0))),.sl 6 (.o (.c (.p 0 0))),.sl 7 (.o (.c (.k (.bool false)))),.sl 8 (.o (.c (.p 0 0))),.sl 9 (.o (.c (.p 0 0))),.sl 10 (.o (.c (.p 0 0))),.sl 11 (yh 0),.sl 12 (yh 1),.sl 13 (yh 2),.bx 0 62 [.h 0,.k (.bool false)]]) (C:=zAI) (H:=.no) 5000 (LZ ⟨z_c yy,z_c yy,z_c yy,z_c yy,z_c yy,z_c yy,z_c yy,z_c yy,z_c yy,z_c yy,z_c yy,z_b ⟨yy,yy,trivial⟩,trivial⟩) (zws (f10 [] trivial) trivial (fq1 [] trivial)) (T11 [] []) mixed hR trivial (fun _ _ _ hs=>by cases hs) (by kernel_rfl) rfl (LZ ⟨z_c yy,z_c yy,z_c yy,z_c yy,z_c yy,z_c yy,z_c (LV u0),z_c (LV u1),z_c (LV u2),z_b ⟨LV u0,yy,trivial⟩,trivial⟩))
    | false =>
     obtain ⟨v513,e513⟩:=LX (IntKind.u8.wrap (BitVec.ofInt IntKind.u8.bits (b504.toNat:Int) &&& BitVec.ofInt IntKind.u8.bits (127:Int)).toNat)
     obtain ⟨v514,e514⟩:=LX (IntKind.u64.wrap v513)
     obtain ⟨v515,e515⟩:=LX (IntKind.i64.wrap ((7:Int)*i))
     have s516:0≤v515:=by (rw [← e515,hi,wri (by omega)];omega)
     obtain ⟨v517,e517⟩:=LX (IntKind.u64.wrap (v514*2 ^ min (v515:Int).toNat IntKind.u64.bits))
     obtain ⟨v518,e518⟩:=LX (IntKind.u64.wrap (BitVec.ofInt IntKind.u64.bits code ||| BitVec.ofInt IntKind.u64.bits v517).toNat)
     obtain ⟨v519,e519⟩:=LX (decide ((b504.toNat:Int)<(128:Int)))
     let A12:=fun t=>A10 (pV (.int .u8 v513)::pI v515::pB v519::t)
     have f12:LA (KN w0) A12:=fun t h=>f10 _ ⟨zc,zc,zc,h⟩
     let Q12:=fun t=>Q1 ((5001,pV (.int .u64 v514))::(5002,pV (.int .u64 v517))::(5003,pV (.int .u64 v518))::t)
     have fq12:LQ (KN w0) Q12:=fun t h=>fq1 _ ⟨⟨rfl,zu⟩,⟨rfl,zu⟩,⟨rfl,zu⟩,h⟩
     have T12:LI (KN w0) Tryz.prog A12 Q12 zAJ:=fun t qq=>⟨e_fbv h512,e_bin (za rfl) ze (za rfl) (zal (LO e513)),e_op1 (za rfl) (za rfl) (fun W=>by rw [← e514];exact r_cvi (by kernel_rfl) (by kernel_rfl) W),e_bin ze (za rfl) (za rfl) (r_ar (LO e515)),e_bin (za rfl) (za rfl) (za rfl) (fun W X Y=>by rw [← e517];exact r_shl s516 W X Y),e_bin (za rfl) (za rfl) (za rfl) (zal (LO e518)),e_bin (za rfl) ze (za rfl) (r_cmp (LO e519)),T10 _ _⟩
     cases h520:v519 with
     | true =>
      obtain ⟨v521,e521⟩:=LX (IntKind.i64.wrap (i+(1:Int)))
      obtain ⟨n522,s523⟩:∃(n522:Nat),v521=(n522:Int):=by (refine ⟨k+1,?_⟩;rw [← e521,hi,wri (by omega)];omega)
      obtain ⟨v524,e524⟩:=LX ((l:List UInt8).drop n522)
      have s525:n522≤(l:List UInt8).length:=by (have dh502:=LD e501 h502;have dh508:=ne_of_beq_false (e507.trans h508);have dh510:=LD e509 h510;have dh512:=ne_of_beq_false (e511.trans h512);have dh520:=LD e519 h520;have hlt:k<l.length:=(by split at h2<;>omega);have:=e521;rw [hi,wri (by omega)] at this;omega)
      obtain ⟨v526,e526⟩:=LX ((v518:Int).fdiv (2 ^ min ((1:Int):Int).toNat IntKind.u64.bits))
      obtain ⟨v527,e527⟩:=LX (IntKind.i64.wrap v526)
      obtain ⟨v528,e528⟩:=LX (IntKind.u64.wrap (BitVec.ofInt IntKind.u64.bits v518 &&& BitVec.ofInt IntKind.u64.bits (1:Int)).toNat)
      obtain ⟨v529,e529⟩:=LX (IntKind.i64.wrap v528)
      obtain ⟨v530,e530⟩:=LX (IntKind.i64.wrap (0 - v529))
      obtain ⟨v531,e531⟩:=LX (IntKind.i64.wrap (BitVec.ofInt IntKind.i64.bits v527 ^^^ BitVec.ofInt IntKind.i64.bits v530).toNat)
      exfalso
      have dh502:=LD e501 h502;have dh508:=ne_of_beq_false (e507.trans h508);have dh510:=LD e509 h510;have dh512:=ne_of_beq_false (e511.trans h512);have dh520:=LD e519 h520
      have hnk:n503=k:=(by omega)
      subst hnk
      have hb:=s506
      have hnb:¬ badB n503 b504:=(by unfold badB;omega)
      have x1:v514=((b504.toNat%128:Nat):Int):=(by rw [← e514,← e513,and8,wu64];omega)
      have x2:v515=((7*n503:Nat):Int):=(by rw [← e515,hi,wri (by omega)];omega)
      have x3:v518=((c+2 ^ (7*n503)*(b504.toNat%128):Nat):Int):=(by rw [← e518,← e517,x1,x2,hc];exact rd_or hJ hnb)
      have hs:b504.toNat<128:=(by omega)
      have hdn:=zcA hJ hb hnb hs
      exact hd (by rw [hdn];rfl)
     | false =>
      obtain ⟨v521,e521⟩:=LX (IntKind.i64.wrap (i+(1:Int)))
      let A13:=fun t=>A12 (pI v521::t)
      have f13:LA (KN w0) A13:=fun t h=>f12 _ ⟨zc,h⟩
      have T13:LI (KN w0) Tryz.prog A13 Q12 zAK:=fun t qq=>⟨e_fbv h520,e_bin (za rfl) ze (za rfl) (r_ar (LO e521)),T12 _ _⟩
      refine .inr ⟨⟨v518,v521⟩,?_,?_,goes (x:=.n) (y:=.n) (Fb:=FQ (A13 []) [] (Q12 [])) (stb:=zxr) (tl:=[.sl 0 (.o (.c (.p 0 0))),.sl 3 (yh 5003),.sl 6 (.o (.c (.p 0 0))),.sl 7 (.o (.c (.k (.bool false)))),.sl 8 (.o (.c (.p 0 0))),.sl 9 (.o (.c (.p 0 0))),.sl 10 (.o (.c (.p 0 0))),.sl 11 (yh 0),.sl 12 (yh 1),.sl 13 (yh 2),.sl 14 (yh 12),.bx 0 62 [.h 0,.k (.bool false)]]) (C:=zAK) (H:=.no) 5000 (LZ ⟨z_c yy,z_c yy,z_c yy,z_c yy,z_c yy,z_c yy,z_c yy,z_c yy,z_c yy,z_c yy,z_c yy,z_b ⟨yy,yy,trivial⟩,trivial⟩) (zws (f13 [] trivial) trivial (fq12 [] trivial)) (T13 [] []) mixed hR trivial (fun _ _ _ hs=>by cases hs) (by kernel_rfl) rfl (LZ ⟨z_c yy,z_c (fun β v W h=>(zd rfl β v W).2 h),z_c yy,z_c yy,z_c yy,z_c yy,z_c yy,z_c yy,z_c yy,z_c yy,z_c (fun β v W h=>(zd rfl β v W).2 h),z_b ⟨yy,yy,trivial⟩,trivial⟩)⟩
      all_goals (have dh502:=LD e501 h502;have dh508:=ne_of_beq_false (e507.trans h508);have dh510:=LD e509 h510;have dh512:=ne_of_beq_false (e511.trans h512);have dh520:=LE e519 h520;have hnk:n503=k:=(by omega);subst hnk;have hb:=s506;have hnb:¬ badB n503 b504:=(by unfold badB;omega);have x1:v514=((b504.toNat%128:Nat):Int):=(by rw [← e514,← e513,and8,wu64];omega);have x2:v515=((7*n503:Nat):Int):=(by rw [← e515,hi,wri (by omega)];omega);have x3:v518=((c+2 ^ (7*n503)*(b504.toNat%128):Nat):Int):=(by rw [← e518,← e517,x1,x2,hc];exact rd_or hJ hnb);have x4:v521=((n503+1:Nat):Int):=(by rw [← e521,hi,wri (by omega)];omega);have hbl:=b504.toNat_lt)
      ·show (10 - v521).toNat<(10 - i).toNat
       omega
      ·exact ⟨n503+1,_,x4,(by rw [x3,show b504.toNat%128=b504.toNat - 128 by omega]),zcB hJ hb hnb (by omega)⟩
   | false =>
    obtain ⟨v511,e511⟩:=LX (IntKind.u8.wrap (BitVec.ofInt IntKind.u8.bits (b504.toNat:Int) &&& BitVec.ofInt IntKind.u8.bits (127:Int)).toNat)
    obtain ⟨v512,e512⟩:=LX (IntKind.u64.wrap v511)
    obtain ⟨v513,e513⟩:=LX (IntKind.i64.wrap ((7:Int)*i))
    have s514:0≤v513:=by (rw [← e513,hi,wri (by omega)];omega)
    obtain ⟨v515,e515⟩:=LX (IntKind.u64.wrap (v512*2 ^ min (v513:Int).toNat IntKind.u64.bits))
    obtain ⟨v516,e516⟩:=LX (IntKind.u64.wrap (BitVec.ofInt IntKind.u64.bits code ||| BitVec.ofInt IntKind.u64.bits v515).toNat)
    obtain ⟨v517,e517⟩:=LX (decide ((b504.toNat:Int)<(128:Int)))
    let A14:=fun t=>A9 (pV (.int .u8 v511)::pI v513::pB v517::t)
    have f14:LA (KN w0) A14:=fun t h=>f9 _ ⟨zc,zc,zc,h⟩
    let Q14:=fun t=>Q1 ((5001,pV (.int .u64 v512))::(5002,pV (.int .u64 v515))::(5003,pV (.int .u64 v516))::t)
    have fq14:LQ (KN w0) Q14:=fun t h=>fq1 _ ⟨⟨rfl,zu⟩,⟨rfl,zu⟩,⟨rfl,zu⟩,h⟩
    have T14:LI (KN w0) Tryz.prog A14 Q14 zAL:=fun t qq=>⟨e_fbv h510,e_bin (za rfl) ze (za rfl) (zal (LO e511)),e_op1 (za rfl) (za rfl) (fun W=>by rw [← e512];exact r_cvi (by kernel_rfl) (by kernel_rfl) W),e_bin ze (za rfl) (za rfl) (r_ar (LO e513)),e_bin (za rfl) (za rfl) (za rfl) (fun W X Y=>by rw [← e515];exact r_shl s514 W X Y),e_bin (za rfl) (za rfl) (za rfl) (zal (LO e516)),e_bin (za rfl) ze (za rfl) (r_cmp (LO e517)),T9 _ _⟩
    cases h518:v517 with
    | true =>
     obtain ⟨v519,e519⟩:=LX (IntKind.i64.wrap (i+(1:Int)))
     obtain ⟨n520,s521⟩:∃(n520:Nat),v519=(n520:Int):=by (refine ⟨k+1,?_⟩;rw [← e519,hi,wri (by omega)];omega)
     obtain ⟨v522,e522⟩:=LX ((l:List UInt8).drop n520)
     have s523:n520≤(l:List UInt8).length:=by (have dh502:=LD e501 h502;have dh508:=ne_of_beq_false (e507.trans h508);have dh510:=LE e509 h510;have dh518:=LD e517 h518;have hlt:k<l.length:=(by split at h2<;>omega);have:=e519;rw [hi,wri (by omega)] at this;omega)
     obtain ⟨v524,e524⟩:=LX ((v516:Int).fdiv (2 ^ min ((1:Int):Int).toNat IntKind.u64.bits))
     obtain ⟨v525,e525⟩:=LX (IntKind.i64.wrap v524)
     obtain ⟨v526,e526⟩:=LX (IntKind.u64.wrap (BitVec.ofInt IntKind.u64.bits v516 &&& BitVec.ofInt IntKind.u64.bits (1:Int)).toNat)
     obtain ⟨v527,e527⟩:=LX (IntKind.i64.wrap v526)
     obtain ⟨v528,e528⟩:=LX (IntKind.i64.wrap (0 - v527))
     obtain ⟨v529,e529⟩:=LX (IntKind.i64.wrap (BitVec.ofInt IntKind.i64.bits v525 ^^^ BitVec.ofInt IntKind.i64.bits v528).toNat)
     exfalso
     have dh502:=LD e501 h502;have dh508:=ne_of_beq_false (e507.trans h508);have dh510:=LE e509 h510;have dh518:=LD e517 h518
     have hnk:n503=k:=(by omega)
     subst hnk
     have hb:=s506
     have hnb:¬ badB n503 b504:=(by unfold badB;omega)
     have x1:v512=((b504.toNat%128:Nat):Int):=(by rw [← e512,← e511,and8,wu64];omega)
     have x2:v513=((7*n503:Nat):Int):=(by rw [← e513,hi,wri (by omega)];omega)
     have x3:v516=((c+2 ^ (7*n503)*(b504.toNat%128):Nat):Int):=(by rw [← e516,← e515,x1,x2,hc];exact rd_or hJ hnb)
     have hs:b504.toNat<128:=(by omega)
     have hdn:=zcA hJ hb hnb hs
     exact hd (by rw [hdn];rfl)
    | false =>
     obtain ⟨v519,e519⟩:=LX (IntKind.i64.wrap (i+(1:Int)))
     let A15:=fun t=>A14 (pI v519::t)
     have f15:LA (KN w0) A15:=fun t h=>f14 _ ⟨zc,h⟩
     have T15:LI (KN w0) Tryz.prog A15 Q14 zAM:=fun t qq=>⟨e_fbv h518,e_bin (za rfl) ze (za rfl) (r_ar (LO e519)),T14 _ _⟩
     refine .inr ⟨⟨v516,v519⟩,?_,?_,goes (x:=.n) (y:=.n) (Fb:=FQ (A15 []) [] (Q14 [])) (stb:=zxr) (tl:=[.sl 0 (.o (.c (.p 0 0))),.sl 3 (yh 5003),.sl 6 (.o (.c (.p 0 0))),.sl 7 (.o (.c (.k (.bool false)))),.sl 8 (.o (.c (.p 0 0))),.sl 9 (.o (.c (.p 0 0))),.sl 10 (.o (.c (.p 0 0))),.sl 11 (yh 0),.sl 12 (yh 1),.sl 13 (yh 2),.sl 14 (yh 11),.bx 0 62 [.h 0,.k (.bool false)]]) (C:=zAM) (H:=.no) 5000 (LZ ⟨z_c yy,z_c yy,z_c yy,z_c yy,z_c yy,z_c yy,z_c yy,z_c yy,z_c yy,z_c yy,z_c yy,z_b ⟨yy,yy,trivial⟩,trivial⟩) (zws (f15 [] trivial) trivial (fq14 [] trivial)) (T15 [] []) mixed hR trivial (fun _ _ _ hs=>by cases hs) (by kernel_rfl) rfl (LZ ⟨z_c yy,z_c (fun β v W h=>(zd rfl β v W).2 h),z_c yy,z_c yy,z_c yy,z_c yy,z_c yy,z_c yy,z_c yy,z_c yy,z_c (fun β v W h=>(zd rfl β v W).2 h),z_b ⟨yy,yy,trivial⟩,trivial⟩)⟩
     all_goals (have dh502:=LD e501 h502;have dh508:=ne_of_beq_false (e507.trans h508);have dh510:=LE e509 h510;have dh518:=LE e517 h518;have hnk:n503=k:=(by omega);subst hnk;have hb:=s506;have hnb:¬ badB n503 b504:=(by unfold badB;omega);have x1:v512=((b504.toNat%128:Nat):Int):=(by rw [← e512,← e511,and8,wu64];omega);have x2:v513=((7*n503:Nat):Int):=(by rw [← e513,hi,wri (by omega)];omega);have x3:v516=((c+2 ^ (7*n503)*(b504.toNat%128):Nat):Int):=(by rw [← e516,← e515,x1,x2,hc];exact rd_or hJ hnb);have x4:v519=((n503+1:Nat):Int):=(by rw [← e519,hi,wri (by omega)];omega);have hbl:=b504.toNat_lt)
     ·show (10 - v519).toNat<(10 - i).toNat
      omega
     ·exact ⟨n503+1,_,x4,(by rw [x3,show b504.toNat%128=b504.toNat - 128 by omega]),zcB hJ hb hnb (by omega)⟩
 | false =>
  have T16:LI (KN w0) Tryz.prog A1 Q1 zAN:=fun t qq=>⟨e_fbv h502,T1 _ _⟩
  exact .inl (goes (x:=(.x 0)) (y:=(.x 0)) (Fb:=FQ (A1 []) [] (Q1 [])) (stb:=zxr) (tl:=[.sl 0 (.o (.c (.p 0 0))),.sl 6 (.o (.c (.p 0 0))),.sl 7 (.o (.c (.k (.bool false)))),.sl 8 (.o (.c (.p 0 0))),.sl 9 (.o (.c (.p 0 0))),.sl 10 (.o (.c (.p 0 0))),.sl 11 (yh 0),.sl 12 (yh 1),.sl 13 (yh 2),.bx 0 62 [.h 0,.k (.bool false)]]) (C:=zAN) (H:=.no) 5000 (LZ ⟨z_c yy,z_c yy,z_c yy,z_c yy,z_c yy,z_c yy,z_c yy,z_c yy,z_c yy,z_c yy,z_c yy,z_b ⟨yy,yy,trivial⟩,trivial⟩) (zws (f1 [] trivial) trivial (fq1 [] trivial)) (T16 [] []) mixed hR trivial (fun _ _ _ hs=>by cases hs) (by kernel_rfl) rfl (LZ ⟨z_c yy,z_c yy,z_c yy,z_c yy,z_c yy,z_c yy,z_c (LV u0),z_c (LV u1),z_c (LV u2),z_b ⟨LV u0,yy,trivial⟩,trivial⟩))
abbrev zwL:List (Nat×Ent):=(1000002,.call ⟨23,[.o (.c (.p 0 0))],[.bx 0 62 [.h 0,.k (.bool false)]],.o (.c (.k (.bool false))),[.bx 0 62 [.h 0,.k (.bool false)]]⟩)::(1000008,.op (.len [9] 3) [yh 0] [] (yh 1))::(1000009,.op (.min [3,3] 3) [LF (.k (.int .i64 10)),yh 1] [] (yh 2))::[]
abbrev zxK:List (Nat×Ent):=zwL
abbrev zxL:List (Nat×Ent):=(1001012,.call ⟨67,[.o (.c (.p 0 0))],[.bx 0 62 [.h 0,.k (.bool false)]],.t [],[.bx 0 62 [.k (.string ⟨#[]⟩),.k (.bool true)]]⟩)::zwL
theorem znB {w0:World} (l:List UInt8) (r:Int) (st2:St) (hr:(rdI (some l)).1=r) (hs:(rdI (some l)).2=st2):BFun false (KN w0) Tryz.prog 36 [.o (.c (.p 0 0))] [(62,[.d (pS l),.d (pV (.bool false))])] (.o (.c (.d (pI r)))) [(62,[.d (pS (lfO st2)),.d (pB (bdO st2))])]:=by
 obtain ⟨v1,e1⟩:=LX (((l:List UInt8).length:Int))
 obtain ⟨v2,e2⟩:=LX ((if v1<(10:Int) then v1 else (10:Int)))
 let A1:List Pred→List Pred:=fun t=>pS l::pI v1::pI v2::t
 have f1:LA (KN w0) A1:=fun t h=>⟨zc,zc,zc,h⟩
 have T1:LT (KN w0) Tryz.prog A1 zwL:=fun t=>⟨b_con (pan:=false) (ze5 (some l)),e_op1 (za rfl) (za rfl) (fun W=>by rw [← e1];exact zav (by kernel_rfl) W),e_op2 ze (za rfl) (za rfl) (fun W=>by rw [← e2];exact zf4 W),trivial⟩
 by_cases c5:(decGo 0 l).isSome=true
 ·
  obtain ⟨o,l2,hO_wrA⟩:∃(o:Int) (l2:(List UInt8)),decI l=some (o,l2):=(by unfold decI;cases hz:decGo 0 l with | none=>(rw [hz] at c5;cases c5) | some x=>exact ⟨_,_,rfl⟩)
  let A2:=fun t=>A1 (pI o::pS l2::t)
  have f2:LA (KN w0) A2:=fun t h=>f1 _ ⟨zc,zc,h⟩
  have T2:LT (KN w0) Tryz.prog A2 zxK:=fun t=>T1 _
  have L_wrA:∀R:Frm,R.pm=⟨ntOf Tryz.prog 36,[0],[]⟩→zj (KN w0) Tryz.prog (FL (A2 []) []) R wrA_S (lp Tryz.prog 36 0):=fun R hR=>zwg l v1 v2  o l2 rfl rfl rfl rfl rfl R hR e1 e2 c5 hO_wrA
  have r0:r=o:=by
   first | rw [← hr] | rw [← hs]
   simp only [rdI,hO_wrA]
  have r1:st2=some l2:=by
   first | rw [← hr] | rw [← hs]
   simp only [rdI,hO_wrA]
  rw [r0,r1];exact con_b (pan:=false) (zN (F:=FL (A2 []) []) (C:=zxK) (k:=⟨36,[.o (.c (.p 0 0))],[.bx 0 62 [.h 0,.k (.bool false)]],yh 3,[.bx 0 62 [.h 4,.k (.bool false)]]⟩) ⟨[wrA_S],[],0⟩ [] 0 (zg (f2 [] trivial)) (T2 []) mixed trivial (fun R hR p hp s hs=>by
   have hl:zD (zR Tryz.prog 36)=[(5,lp Tryz.prog 36 0)]:=by kernel_rfl
   rw [hl] at hp
   simp only [List.mem_cons,List.not_mem_nil,or_false] at hp
   rcases hp with rfl
   ·have e:s=wrA_S:=(Option.some.inj hs).symm
    subst e;exact L_wrA R hR) (by kernel_rfl))
 ·
  have T3:LT (KN w0) Tryz.prog A1 zxL:=fun t=>⟨b_con (pan:=false) (zfn (some l)),T1 _⟩
  have L_wrB:∀R:Frm,R.pm=⟨ntOf Tryz.prog 36,[0],[]⟩→zj (KN w0) Tryz.prog (FL (A1 []) []) R wrB_S (lp Tryz.prog 36 0):=fun R hR=>zwk l v1 v2   rfl rfl rfl R hR e1 e2 c5
  have r0:r=(0:Int):=by
   have hn:decI l=none:=(by unfold decI;cases hz:decGo 0 l with | none=>rfl | some x=>(rw [hz] at c5;exact absurd rfl c5))
   first | rw [← hr] | rw [← hs]
   simp only [rdI,hn]
  have r1:st2=none:=by
   have hn:decI l=none:=(by unfold decI;cases hz:decGo 0 l with | none=>rfl | some x=>(rw [hz] at c5;exact absurd rfl c5))
   first | rw [← hr] | rw [← hs]
   simp only [rdI,hn]
  rw [r0,r1];exact con_b (pan:=false) (zN (F:=FL (A1 []) []) (C:=zxL) (k:=⟨36,[.o (.c (.p 0 0))],[.bx 0 62 [.h 0,.k (.bool false)]],.o (.c (.k (.int .i64 0))),[.bx 0 62 [.k (.string ⟨#[]⟩),.k (.bool true)]]⟩) ⟨[wrB_S],[],0⟩ [] 0 (zg (f1 [] trivial)) (T3 []) mixed trivial (fun R hR p hp s hs=>by
   have hl:zD (zR Tryz.prog 36)=[(5,lp Tryz.prog 36 0)]:=by kernel_rfl
   rw [hl] at hp
   simp only [List.mem_cons,List.not_mem_nil,or_false] at hp
   rcases hp with rfl
   ·have e:s=wrB_S:=(Option.some.inj hs).symm
    subst e;exact L_wrB R hR) (by kernel_rfl))
abbrev zxA:List (Nat×Ent):=(1000002,.call ⟨23,[.o (.c (.p 0 0))],[.bx 0 62 [.k (.string ⟨#[]⟩),.k (.bool true)]],.o (.c (.k (.bool true))),[.bx 0 62 [.k (.string ⟨#[]⟩),.k (.bool true)]]⟩)::[]
theorem zkX {w0:World} (r:Int) (st2:St) (hr:(rdI none).1=r) (hs:(rdI none).2=st2):BFun false (KN w0) Tryz.prog 36 [.o (.c (.p 0 0))] [(62,[.d (pV (.string ⟨#[]⟩)),.d (pV (.bool true))])] (.o (.c (.d (pI r)))) [(62,[.d (pS (lfO st2)),.d (pB (bdO st2))])]:=by
 let A1:List Pred→List Pred:=fun t=>t
 have f1:LA (KN w0) A1:=fun t h=>h
 have T1:LT (KN w0) Tryz.prog A1 zxA:=fun t=>⟨b_con (pan:=false) (ze5 none),trivial⟩
 have r0:r=(0:Int):=by
  first | rw [← hr] | rw [← hs]
  rfl
 have r1:st2=none:=by
  first | rw [← hr] | rw [← hs]
  rfl
 rw [r0,r1];exact con_b (pan:=false) (zr (F:=FL (A1 []) []) (C:=zxA) (k:=⟨36,[.o (.c (.p 0 0))],[.bx 0 62 [.k (.string ⟨#[]⟩),.k (.bool true)]],.o (.c (.k (.int .i64 0))),[.bx 0 62 [.k (.string ⟨#[]⟩),.k (.bool true)]]⟩) 0 (zg (f1 [] trivial)) (T1 []) mixed (by kernel_rfl))
theorem zai {w0:World} (st:St) (r:Int) (st2:St) (hr:(rdI st).1=r) (hs:(rdI st).2=st2):BFun false (KN w0) Tryz.prog 36 [.o (.c (.p 0 0))] [(62,[.d (pS (lfO st)),.d (pB (bdO st))])] (.o (.c (.d (pI r)))) [(62,[.d (pS (lfO st2)),.d (pB (bdO st2))])]:=by
 cases st with
 | none=>exact zkX r st2 hr hs
 | some l=>exact znB l r st2 hr hs
end Go.Proofs.YtjcegdldgjphiaaGreatDoor
namespace Go.Proofs.YtjcegdldgjphiaaGreatDoor
open Go.RowKit Go.Shelf
abbrev zw8:List (Nat×Ent):=(1000002,.call ⟨36,[.o (.c (.p 900 0))],[.bx 900 62 [.h 0,.h 1]],yh 2,[.bx 900 62 [.h 3,.h 4]]⟩)::(1000005,.bin .lss 3 (yh 2) (LF (.k (.int .i64 0))) (yh 5))::[]
abbrev zyf:List (Nat×Ent):=(10005,.fb 5 true)::(1000013,.call ⟨67,[.o (.c (.p 900 0))],[.bx 900 62 [.h 3,.h 4]],.t [],[.bx 900 62 [.k (.string ⟨#[]⟩),.k (.bool true)]]⟩)::zw8
abbrev zw9:List (Nat×Ent):=(10005,.fb 5 false)::(1000009,.call ⟨21,[.o (.c (.p 900 0))],[.bx 900 62 [.h 3,.h 4]],yh 6,[.bx 900 62 [.h 3,.h 4]]⟩)::(1000010,.bin .gtr 3 (yh 2) (yh 6) (yh 7))::zw8
abbrev zyg:List (Nat×Ent):=(10007,.fb 7 true)::(1000013,.call ⟨67,[.o (.c (.p 900 0))],[.bx 900 62 [.h 3,.h 4]],.t [],[.bx 900 62 [.k (.string ⟨#[]⟩),.k (.bool true)]]⟩)::zw9
abbrev zyh:List (Nat×Ent):=(10007,.fb 7 false)::zw9
theorem zbG {w0:World} (st:St) (r:Int) (st2:St) (hr:(rdC st).1=r) (hs:(rdC st).2=st2):BFun false (KN w0) Tryz.prog 81 [.o (.c (.p 0 0))] [(62,[.d (pS (lfO st)),.d (pB (bdO st))])] (.o (.c (.d (pI r)))) [(62,[.d (pS (lfO st2)),.d (pB (bdO st2))])]:=by
 obtain ⟨v1,e1⟩:=LX ((rdI st).1)
 obtain ⟨v2,e2⟩:=LX ((rdI st).2)
 obtain ⟨v3,e3⟩:=LX (decide (v1<(0:Int)))
 let A1:List Pred→List Pred:=fun t=>pS (lfO st)::pB (bdO st)::pI v1::pS (lfO v2)::pB (bdO v2)::pB v3::t
 have f1:LA (KN w0) A1:=fun t h=>⟨zc,zc,zc,zc,zc,zc,h⟩
 have T1:LT (KN w0) Tryz.prog A1 zw8:=fun t=>⟨b_con (pan:=false) (zai st v1 v2 e1 e2),e_bin (za rfl) ze (za rfl) (r_cmp (LO e3)),trivial⟩
 cases h4:v3 with
 | true =>
  have T2:LT (KN w0) Tryz.prog A1 zyf:=fun t=>⟨e_fbv h4,b_con (pan:=false) (zfn v2),T1 _⟩
  have r0:r=(0:Int):=by
   have dh4:=LD e3 h4
   have hC:rdC st=(0,none):=by
    unfold rdC
    rw [e1,e2,if_pos (by omega)]
   first | rw [← hr,hC] | rw [← hs,hC]
  have r1:st2=none:=by
   have dh4:=LD e3 h4
   have hC:rdC st=(0,none):=by
    unfold rdC
    rw [e1,e2,if_pos (by omega)]
   first | rw [← hr,hC] | rw [← hs,hC]
  rw [r0,r1];exact con_b (pan:=false) (zr (F:=FL (A1 []) []) (C:=zyf) (k:=⟨81,[.o (.c (.p 900 0))],[.bx 900 62 [.h 0,.h 1]],.o (.c (.k (.int .i64 0))),[.bx 900 62 [.k (.string ⟨#[]⟩),.k (.bool true)]]⟩) 0 (zg (f1 [] trivial)) (T2 []) mixed (by kernel_rfl))
 | false =>
  obtain ⟨v5,e5⟩:=LX ((leftN v2:Int))
  obtain ⟨v6,e6⟩:=LX (decide (v1 > v5))
  let A3:=fun t=>A1 (pI v5::pB v6::t)
  have f3:LA (KN w0) A3:=fun t h=>f1 _ ⟨zc,zc,h⟩
  have T3:LT (KN w0) Tryz.prog A3 zw9:=fun t=>⟨e_fbv h4,b_con (pan:=false) (ze6 v2 v5 e5),e_bin (za rfl) (za rfl) (za rfl) (r_cmp (LO e6)),T1 _⟩
  cases h7:v6 with
  | true =>
   have T4:LT (KN w0) Tryz.prog A3 zyg:=fun t=>⟨e_fbv h7,b_con (pan:=false) (zfn v2),T3 _⟩
   have r0:r=(0:Int):=by
    have dh4:=LE e3 h4
    have dh7:=LD e6 h7
    have hC:rdC st=(0,none):=by
     unfold rdC
     rw [e1,e2,if_pos (by omega)]
    first | rw [← hr,hC] | rw [← hs,hC]
   have r1:st2=none:=by
    have dh4:=LE e3 h4
    have dh7:=LD e6 h7
    have hC:rdC st=(0,none):=by
     unfold rdC
     rw [e1,e2,if_pos (by omega)]
    first | rw [← hr,hC] | rw [← hs,hC]
   rw [r0,r1];exact con_b (pan:=false) (zr (F:=FL (A3 []) []) (C:=zyg) (k:=⟨81,[.o (.c (.p 900 0))],[.bx 900 62 [.h 0,.h 1]],.o (.c (.k (.int .i64 0))),[.bx 900 62 [.k (.string ⟨#[]⟩),.k (.bool true)]]⟩) 0 (zg (f3 [] trivial)) (T4 []) mixed (by kernel_rfl))
  | false =>
   have T5:LT (KN w0) Tryz.prog A3 zyh:=fun t=>⟨e_fbv h7,T3 _⟩
   have r0:r=v1:=by
    have dh4:=LE e3 h4
    have dh7:=LE e6 h7
    have hC:rdC st=(v1,v2):=by
     unfold rdC
     rw [e1,e2,if_neg (by omega)]
     exact Prod.ext e1 e2
    first | rw [← hr,hC] | rw [← hs,hC]
   have r1:st2=v2:=by
    have dh4:=LE e3 h4
    have dh7:=LE e6 h7
    have hC:rdC st=(v1,v2):=by
     unfold rdC
     rw [e1,e2,if_neg (by omega)]
     exact Prod.ext e1 e2
    first | rw [← hr,hC] | rw [← hs,hC]
   rw [r0,r1];exact con_b (pan:=false) (zr (F:=FL (A3 []) []) (C:=zyh) (k:=⟨81,[.o (.c (.p 900 0))],[.bx 900 62 [.h 0,.h 1]],yh 2,[.bx 900 62 [.h 3,.h 4]]⟩) 0 (zg (f3 [] trivial)) (T5 []) mixed (by kernel_rfl))
abbrev zx2:List (Nat×Ent):=(1000002,.call ⟨36,[.o (.c (.p 900 0))],[.bx 900 62 [.h 0,.h 1]],yh 2,[.bx 900 62 [.h 3,.h 4]]⟩)::(1000004,.call ⟨36,[.o (.c (.p 900 0))],[.bx 900 62 [.h 3,.h 4]],yh 5,[.bx 900 62 [.h 6,.h 7]]⟩)::(1000006,.call ⟨36,[.o (.c (.p 900 0))],[.bx 900 62 [.h 6,.h 7]],yh 8,[.bx 900 62 [.h 9,.h 10]]⟩)::(1000011,.call ⟨23,[.o (.c (.p 900 0))],[.bx 900 62 [.h 9,.h 10]],yh 11,[.bx 900 62 [.h 9,.h 10]]⟩)::[]
abbrev zy7:List (Nat×Ent):=(10011,.fb 11 true)::zx2
abbrev zy8:List (Nat×Ent):=(10011,.fb 11 false)::zx2
theorem zk1 {w0:World} (st:St) (r:V3) (st2:St) (hr:(rdV st).1=r) (hs:(rdV st).2=st2):BFun false (KN w0) Tryz.prog 54 [.o (.c (.p 0 0))] [(62,[.d (pS (lfO st)),.d (pB (bdO st))])] (.o (.g [.d (pI r.1),.d (pI r.2.1),.d (pI r.2.2)])) [(62,[.d (pS (lfO st2)),.d (pB (bdO st2))])]:=by
 obtain ⟨v1,e1⟩:=LX ((rdI st).1)
 obtain ⟨v2,e2⟩:=LX ((rdI st).2)
 obtain ⟨v3,e3⟩:=LX ((rdI v2).1)
 obtain ⟨v4,e4⟩:=LX ((rdI v2).2)
 obtain ⟨v5,e5⟩:=LX ((rdI v4).1)
 obtain ⟨v6,e6⟩:=LX ((rdI v4).2)
 obtain ⟨v7,e7⟩:=LX (bdO v6)
 let A1:List Pred→List Pred:=fun t=>pS (lfO st)::pB (bdO st)::pI v1::pS (lfO v2)::pB (bdO v2)::pI v3::pS (lfO v4)::pB (bdO v4)::pI v5::pS (lfO v6)::pB (bdO v6)::pB v7::t
 have f1:LA (KN w0) A1:=fun t h=>⟨zc,zc,zc,zc,zc,zc,zc,zc,zc,zc,zc,zc,h⟩
 have T1:LT (KN w0) Tryz.prog A1 zx2:=fun t=>⟨b_con (pan:=false) (zai st v1 v2 e1 e2),b_con (pan:=false) (zai v2 v3 v4 e3 e4),b_con (pan:=false) (zai v4 v5 v6 e5 e6),b_con (pan:=false) (w_bad v6 v7 e7),trivial⟩
 cases h8:v7 with
 | true =>
  have T2:LT (KN w0) Tryz.prog A1 zy7:=fun t=>⟨e_fbv h8,T1 _⟩
  have r0:r=((0:Int),(0:Int),(0:Int)):=by
   have hb:v6=none:=q9.1 (e7.trans h8)
   have hV:rdV st=((0,0,0),none):=by
    unfold rdV
    simp only [e2,e4,e6,hb]
   first | rw [← hr,hV] | rw [← hs,hV,hb]
  have r1:st2=v6:=by
   have hb:v6=none:=q9.1 (e7.trans h8)
   have hV:rdV st=((0,0,0),none):=by
    unfold rdV
    simp only [e2,e4,e6,hb]
   first | rw [← hr,hV] | rw [← hs,hV,hb]
  rw [r0,r1];exact con_b (pan:=false) (zr (F:=FL (A1 []) []) (C:=zy7) (k:=⟨54,[.o (.c (.p 900 0))],[.bx 900 62 [.h 0,.h 1]],.o (.g [.k (.int .i64 0),.k (.int .i64 0),.k (.int .i64 0)]),[.bx 900 62 [.h 9,.h 10]]⟩) 0 (zg (f1 [] trivial)) (T2 []) mixed (by kernel_rfl))
 | false =>
  have T3:LT (KN w0) Tryz.prog A1 zy8:=fun t=>⟨e_fbv h8,T1 _⟩
  have r0:r=(v1,v3,v5):=by
   obtain ⟨l,hl⟩:=qn.1 (e7.trans h8)
   have hV:rdV st=((v1,v3,v5),v6):=by
    unfold rdV
    simp only [e1,e2,e3,e4,e5,e6,hl]
   first | rw [← hr,hV] | rw [← hs,hV]
  have r1:st2=v6:=by
   obtain ⟨l,hl⟩:=qn.1 (e7.trans h8)
   have hV:rdV st=((v1,v3,v5),v6):=by
    unfold rdV
    simp only [e1,e2,e3,e4,e5,e6,hl]
   first | rw [← hr,hV] | rw [← hs,hV]
  rw [r0,r1];exact con_b (pan:=false) (zr (F:=FL (A1 []) []) (C:=zy8) (k:=⟨54,[.o (.c (.p 900 0))],[.bx 900 62 [.h 0,.h 1]],.o (.g [.h 2,.h 5,.h 8]),[.bx 900 62 [.h 9,.h 10]]⟩) 0 (zg (f1 [] trivial)) (T3 []) mixed (by kernel_rfl))
abbrev zyi:List (Nat×Ent):=(1000002,.call ⟨54,[.o (.c (.p 900 0))],[.bx 900 62 [.h 0,.h 1]],.o (.g [.h 2,.h 3,.h 4]),[.bx 900 62 [.h 5,.h 6]]⟩)::(1000004,.call ⟨36,[.o (.c (.p 900 0))],[.bx 900 62 [.h 5,.h 6]],yh 7,[.bx 900 62 [.h 8,.h 9]]⟩)::[]
theorem zqj {w0:World} (st:St) (r:Pl) (st2:St) (hr:(rdP st).1=r) (hs:(rdP st).2=st2):BFun false (KN w0) Tryz.prog 84 [.o (.c (.p 0 0))] [(62,[.d (pS (lfO st)),.d (pB (bdO st))])] (.o (.g [.d (pI r.1.1),.d (pI r.1.2.1),.d (pI r.1.2.2),.d (pI r.2)])) [(62,[.d (pS (lfO st2)),.d (pB (bdO st2))])]:=by
 obtain ⟨v1,e1⟩:=LX ((rdV st).1)
 obtain ⟨v2,e2⟩:=LX ((rdV st).2)
 obtain ⟨v3,e3⟩:=LX ((rdI v2).1)
 obtain ⟨v4,e4⟩:=LX ((rdI v2).2)
 let A1:List Pred→List Pred:=fun t=>pS (lfO st)::pB (bdO st)::pI v1.1::pI v1.2.1::pI v1.2.2::pS (lfO v2)::pB (bdO v2)::pI v3::pS (lfO v4)::pB (bdO v4)::t
 have f1:LA (KN w0) A1:=fun t h=>⟨zc,zc,zc,zc,zc,zc,zc,zc,zc,zc,h⟩
 have T1:LT (KN w0) Tryz.prog A1 zyi:=fun t=>⟨b_con (pan:=false) (zk1 st v1 v2 e1 e2),b_con (pan:=false) (zai v2 v3 v4 e3 e4),trivial⟩
 have r0:r=(v1,v3):=by
  first | rw [← hr] | rw [← hs]
  unfold rdP
  simp_all
 have r1:st2=v4:=by
  first | rw [← hr] | rw [← hs]
  unfold rdP
  simp_all
 rw [r0,r1];exact con_b (pan:=false) (zr (F:=FL (A1 []) []) (C:=zyi) (k:=⟨84,[.o (.c (.p 900 0))],[.bx 900 62 [.h 0,.h 1]],.o (.g [.h 2,.h 3,.h 4,.h 7]),[.bx 900 62 [.h 8,.h 9]]⟩) 0 (zg (f1 [] trivial)) (T1 []) mixed (by kernel_rfl))
end Go.Proofs.YtjcegdldgjphiaaGreatDoor
namespace Go.Proofs.YtjcegdldgjphiaaGreatDoor
open Go.RowKit Go.Shelf
theorem zp6 {w0:World} {st:St} (h:bdO (rdC st).2=true) (_:St) (r:Int) (hr:(rdC st).1=r):BFun false (KN w0) Tryz.prog 81 [.o (.c (.p 0 0))] [(62,[.d (pS (lfO st)),.d (pB (bdO st))])] (.o (.c (.d (pI r)))) [(62,[.d (pV (.string ⟨#[]⟩)),.d (pV (.bool true))])]:=zbG st r none hr (q9.1 h)
theorem zse {w0:World} {st:St} (h:bdO (rdC st).2=false) (_:St) (r:Int) (l:List UInt8) (hr:(rdC st).1=r) (hl:lfO (rdC st).2=l):BFun false (KN w0) Tryz.prog 81 [.o (.c (.p 0 0))] [(62,[.d (pS (lfO st)),.d (pB (bdO st))])] (.o (.c (.d (pI r)))) [(62,[.d (pS l),.d (pV (.bool false))])]:=by
 obtain ⟨m,hm⟩:=qn.1 h
 have e:l=m:=by rw [← hl,hm];rfl
 subst e
 exact zbG st r (some l) hr hm
abbrev zxD:List (Nat×Ent):=[]
abbrev zyK:List (Nat×Ent):=(1000002,.call ⟨81,[.o (.c (.p 900 0))],[.bx 900 62 [.h 0,.h 1]],yh 2,[.bx 900 62 [.k (.string ⟨#[]⟩),.k (.bool true)]]⟩)::(1000005,.call ⟨23,[.o (.c (.p 900 0))],[.bx 900 62 [.k (.string ⟨#[]⟩),.k (.bool true)]],.o (.c (.k (.bool true))),[.bx 900 62 [.k (.string ⟨#[]⟩),.k (.bool true)]]⟩)::zxD
abbrev zyL:List (Nat×Ent):=(1000002,.call ⟨81,[.o (.c (.p 900 0))],[.bx 900 62 [.h 0,.h 1]],yh 2,[.bx 900 62 [.h 3,.k (.bool false)]]⟩)::(1000005,.call ⟨23,[.o (.c (.p 900 0))],[.bx 900 62 [.h 3,.k (.bool false)]],.o (.c (.k (.bool false))),[.bx 900 62 [.h 3,.k (.bool false)]]⟩)::(1000011,.op (.sc 9 false true false) [yh 3,yh 2] [] (yh 4))::(1000019,.op (.sc 9 true false false) [yh 3,yh 2] [] (yh 5))::zxD
theorem zdp {w0:World} (st:St) (r:List UInt8) (st2:St) (hr:(rdT st).1=r) (hs:(rdT st).2=st2):BFun false (KN w0) Tryz.prog 51 [.o (.c (.p 0 0))] [(62,[.d (pS (lfO st)),.d (pB (bdO st))])] (.o (.c (.d (pS r)))) [(62,[.d (pS (lfO st2)),.d (pB (bdO st2))])]:=by
 let A1:List Pred→List Pred:=fun t=>pS (lfO st)::pB (bdO st)::t
 have f1:LA (KN w0) A1:=fun t h=>⟨zc,zc,h⟩
 have T1:LT (KN w0) Tryz.prog A1 zxD:=fun t=>trivial
 cases h1:bdO (rdC st).2 with
 | true =>
  obtain ⟨v2,e2⟩:=LX ((rdC st).1)
  let A2:=fun t=>A1 (pI v2::t)
  have f2:LA (KN w0) A2:=fun t h=>f1 _ ⟨zc,h⟩
  have T2:LT (KN w0) Tryz.prog A2 zyK:=fun t=>⟨b_con (pan:=false) (zp6 h1 st v2 e2),b_con (pan:=false) (ze5 none),T1 _⟩
  have r0:r=[]:=by
   have hT:rdT st=([],none):=by
    unfold rdT
    rw [q9.1 h1]
   first | rw [← hr,hT] | rw [← hs,hT]
  have r1:st2=none:=by
   have hT:rdT st=([],none):=by
    unfold rdT
    rw [q9.1 h1]
   first | rw [← hr,hT] | rw [← hs,hT]
  rw [r0,r1];exact con_b (pan:=false) (zr (F:=FL (A2 []) []) (C:=zyK) (k:=⟨51,[.o (.c (.p 900 0))],[.bx 900 62 [.h 0,.h 1]],.o (.c (.k (.string ⟨#[]⟩))),[.bx 900 62 [.k (.string ⟨#[]⟩),.k (.bool true)]]⟩) 0 (zg (f2 [] trivial)) (T2 []) mixed (by kernel_rfl))
 | false =>
  obtain ⟨v2,e2⟩:=LX ((rdC st).1)
  obtain ⟨v3,e3⟩:=LX (lfO (rdC st).2)
  obtain ⟨n4,s5⟩:∃(n4:Nat),v2=(n4:Int):=by (have h0:=zaR st;exact ⟨_,(Int.toNat_of_nonneg (by omega)).symm⟩)
  obtain ⟨v6,e6⟩:=LX ((v3:List UInt8).take n4)
  have s7:n4≤(v3:List UInt8).length:=by (have h0:=zcI st;rw [zg1] at h0;subst_vars;omega)
  obtain ⟨n8,s9⟩:∃(n8:Nat),v2=(n8:Int):=by (have h0:=zaR st;exact ⟨_,(Int.toNat_of_nonneg (by omega)).symm⟩)
  obtain ⟨v10,e10⟩:=LX ((v3:List UInt8).drop n8)
  have s11:n8≤(v3:List UInt8).length:=by (have h0:=zcI st;rw [zg1] at h0;subst_vars;omega)
  let A3:=fun t=>A1 (pI v2::pS v3::pS v6::pS v10::t)
  have f3:LA (KN w0) A3:=fun t h=>f1 _ ⟨zc,zc,zc,zc,h⟩
  have T3:LT (KN w0) Tryz.prog A3 zyL:=fun t=>⟨b_con (pan:=false) (zse h1 st v2 v3 e2 e3),b_con (pan:=false) (ze5 (some v3)),e_op2 (za rfl) (za rfl) (za rfl) (fun W=>by rw [← e6];exact zcf (by kernel_rfl) s5 s7 W),e_op2 (za rfl) (za rfl) (za rfl) (fun W=>by rw [← e10];exact zdh (by kernel_rfl) s9 s11 W),T1 _⟩
  have r0:r=v6:=by
   obtain ⟨m,hm⟩:=qn.1 h1
   have e:v3=m:=by rw [← e3,hm];rfl
   have e8:n8=n4:=by omega
   have hT:rdT st=(v6,some v10):=by
    unfold rdT
    rw [hm]
    simp only []
    rw [e2,s5,Int.toNat_natCast,← e6,← e10,e,e8]
   first | rw [← hr,hT] | rw [← hs,hT]
  have r1:st2=some v10:=by
   obtain ⟨m,hm⟩:=qn.1 h1
   have e:v3=m:=by rw [← e3,hm];rfl
   have e8:n8=n4:=by omega
   have hT:rdT st=(v6,some v10):=by
    unfold rdT
    rw [hm]
    simp only []
    rw [e2,s5,Int.toNat_natCast,← e6,← e10,e,e8]
   first | rw [← hr,hT] | rw [← hs,hT]
  rw [r0,r1];exact con_b (pan:=false) (zr (F:=FL (A3 []) []) (C:=zyL) (k:=⟨51,[.o (.c (.p 900 0))],[.bx 900 62 [.h 0,.h 1]],yh 4,[.bx 900 62 [.h 5,.k (.bool false)]]⟩) 0 (zg (f3 [] trivial)) (T3 []) mixed (by kernel_rfl))
end Go.Proofs.YtjcegdldgjphiaaGreatDoor
namespace Go.Proofs.YtjcegdldgjphiaaGreatDoor
structure Sz (k:Nat) (p:Rat):Prop where
 n:p.num.natAbs<2 ^ k
 d:p.den<2 ^ k
theorem zhf {j k:Nat} (h:j≤k):2 ^ j≤2 ^ k:=Nat.pow_le_pow_right (by decide) h
theorem zt3 {a b n k:Nat} (e:n=a*b) (h:k≤n):2 ^ k≤(2 ^ a) ^ b:=by rw [← Nat.pow_mul,← e];exact zhf h
theorem zn4 {k:Nat} (h:k≤2048):2 ^ k≤big:=by
 have:=zt3 (a:=32) (b:=64) rfl h
 rw [show (2:Nat) ^ 32=4294967296 from rfl] at this
 exact this
theorem zcz {a b j k:Nat} (ha:a<2 ^ j) (hb:b<2 ^ k):a*b<2 ^ (j+k):=by
 rw [Nat.pow_add]
 exact Nat.mul_lt_mul'' ha hb
section
variable {j k m:Nat} {p q:Rat}
theorem Sz.mono (h:Sz k p) (hk:k≤m):Sz m p:=⟨Nat.lt_of_lt_of_le h.n (zhf hk),Nat.lt_of_lt_of_le h.d (zhf hk)⟩
theorem Sz.nb (h:Sz k p) (hk:k≤2048):p.num.natAbs<big:=Nat.lt_of_lt_of_le h.n (zn4 hk)
theorem Sz.db (h:Sz k p) (hk:k≤2048):p.den<big:=Nat.lt_of_lt_of_le h.d (zn4 hk)
theorem zc1 {x:Int} {d:Nat} (hd:d≠0) (hx:x.natAbs<2 ^ k) (hd2:d<2 ^ k):Sz k (Rat.divInt x d):=by
 obtain ⟨h1,h2⟩:=zdB (x:=x) hd
 refine ⟨?_,?_⟩
 ·rw [h1,Int.natAbs_ediv_of_dvd zh5,Int.natAbs_natCast]
  exact Nat.lt_of_le_of_lt (Nat.div_le_self _ _) hx
 ·rw [h2];exact Nat.lt_of_le_of_lt (Nat.div_le_self _ _) hd2
theorem zmv {x y:Int} (hy:y≠0) (hx:x.natAbs<2 ^ k) (hy2:y.natAbs<2 ^ k):Sz k (Rat.divInt x y):=by
 rcases Int.natAbs_eq y with h | h
 ·rw [h];exact zc1 (by omega) hx hy2
 ·rw [h,Rat.divInt_neg',]
  exact zc1 (by omega) (by rwa [Int.natAbs_neg]) hy2
theorem zpM {x y:Int} (hy:y≠0) (h:ofR x y=some p):p=Rat.divInt x y:=by
 unfold ofR at h;rw [if_neg hy] at h;exact (Option.some.inj h).symm
theorem zlx (p:Rat):(p.den:Int)≠0:=by have:=p.den_nz;omega
theorem zlv (hp:Sz j p) (hq:Sz k q):(p.num*q.den).natAbs<2 ^ (j+k):=by rw [Int.natAbs_mul,Int.natAbs_natCast];exact zcz hp.n hq.d
theorem Sz.add (hp:Sz j p) (hq:Sz k q):Sz (j+k+1) (p+q):=by
 rw [zpM (Int.mul_ne_zero (zlx p) (zlx q)) (zu8 p q),← Int.natCast_mul]
 have h1:=zlv hp hq
 have h2:=zlv hq hp
 rw [Nat.add_comm] at h2
 have h3:=zcz hp.d hq.d
 refine zc1 (Nat.mul_ne_zero p.den_nz q.den_nz) ?_ ?_
 ·rw [Nat.pow_succ];omega
 ·rw [Nat.pow_succ];omega
theorem Sz.mul (hp:Sz j p) (hq:Sz k q):Sz (j+k) (p*q):=by
 rw [zpM (Int.mul_ne_zero (zlx p) (zlx q)) (zvu p q),← Int.natCast_mul]
 exact zc1 (Nat.mul_ne_zero p.den_nz q.den_nz) (by rw [Int.natAbs_mul];exact zcz hp.n hq.n) (zcz hp.d hq.d)
theorem Sz.neg (hp:Sz k p):Sz k (-p):=⟨by rw [Rat.neg_num,Int.natAbs_neg];exact hp.n,by rw [Rat.neg_den];exact hp.d⟩
theorem Sz.sub (hp:Sz j p) (hq:Sz k q):Sz (j+k+1) (p - q):=by rw [Rat.sub_eq_add_neg];exact hp.add hq.neg
theorem rr_sz (h:Sz k p) (hk:k≤2048):rrX (rq (some p)).1 (rq (some p)).2=true:=rrX_q (h.nb hk) (h.db hk)
theorem num97 {l:List Int} (h:l.length≤3):(numL l).natAbs<2 ^ 97:=Nat.lt_of_le_of_lt (zg6 l h) (by decide +kernel)
theorem ztO (l:List Int):∃p,madeR l=some p∧Sz 97 p:=by
 have h:∃x y:Int,madeR l=ofR x y∧y≠0∧x.natAbs<2 ^ 97∧y.natAbs<2 ^ 97:=by
  have s1:∀x:Int,x.natAbs≤100→x.natAbs<2 ^ 97:=fun x hx=>Nat.lt_of_le_of_lt hx (by decide +kernel)
  unfold madeR
  split
  ·refine ⟨_,_,rfl,?_,s1 _ ?_,s1 _ ?_⟩
   ·split
    ·have:=Int.emod_nonneg (l.getD 1 0) (show (30:Int)≠0 by decide);omega
    ·decide
   ·split
    ·have:=ze3 (l.getD 0 0);omega
    ·decide
   ·split
    ·have:=Int.emod_nonneg (l.getD 1 0) (show (30:Int)≠0 by decide)
     have:=Int.emod_lt_of_pos (l.getD 1 0) (show (0:Int)<30 by decide)
     omega
    ·decide
  ·refine ⟨_,_,rfl,?_,num97 (by rw [List.length_take];omega),?_⟩
   ·split
    ·decide
    ·assumption
   ·split
    ·exact s1 _ (by decide)
    ·exact num97 (by rw [List.length_take];omega)
 obtain ⟨x,y,e,hy,h1,h2⟩:=h
 exact ⟨Rat.divInt x y,by rw [e];unfold ofR;rw [if_neg hy],zmv hy h1 h2⟩
end
section
variable {p q r:Rat}
end
end Go.Proofs.YtjcegdldgjphiaaGreatDoor
namespace Go.Proofs.YtjcegdldgjphiaaGreatDoor
theorem zh2 {v:Nat} (h:v<2 ^ 97):(Lib.decDigits v).length≤30:=by
 by_cases h0:v=0
 ·subst h0;rw [zbc];simp
 ·rw [zb5 v h0]
  have h1:=Nat.lt_of_le_of_lt (zsK v h0) (Nat.lt_trans h (show 2 ^ 97<10 ^ 30 by decide +kernel))
  have:=(Nat.pow_lt_pow_iff_right (a:=10) (by decide)).1 h1
  omega
theorem zfV {x:Int} (h:x.natAbs<2 ^ 97):(Lib.itoa x).length≤31:=by
 unfold Lib.itoa
 split
 ·rw [List.length_cons]
  have:=zh2 h
  omega
 ·have:=zh2 (v:=x.toNat) (by omega)
  omega
theorem zqR:∀v:Nat,∀c∈dd v,c≠47:=by
 intro v
 induction v using Nat.strongRecOn with
 | _ v ih =>
  intro c hc
  by_cases h:v=0
  ·subst h;rw [zbl] at hc;cases hc
  ·rw [zd3 h,List.mem_append] at hc
   rcases hc with hc | hc
   ·exact ih _ (by omega) c hc
   ·rw [List.mem_singleton] at hc
    subst hc
    intro e
    have:=congrArg UInt8.toNat e
    revert this
    have h10:v%10<10:=Nat.mod_lt _ (by decide)
    revert h10
    generalize v%10=d
    intro h10
    match d,h10 with
    | 0,_ | 1,_ | 2,_ | 3,_ | 4,_ | 5,_ | 6,_ | 7,_ | 8,_ | 9,_=>decide
    | d+10,h=>omega
theorem zh3 (v:Nat):∀c∈Lib.decDigits v,c≠47:=by
 by_cases h0:v=0
 ·subst h0;rw [zbc];intro c hc;rw [List.mem_singleton] at hc;subst hc;decide
 ·rw [zb5 v h0];exact zqR v
theorem zmC (x:Int):∀c∈Lib.itoa x,c≠47:=by
 unfold Lib.itoa
 split
 ·intro c hc
  rcases List.mem_cons.1 hc with rfl | hc
  ·decide
  ·exact zh3 _ c hc
 ·exact zh3 _
theorem zng {s:List UInt8} (h:∀c∈s,c≠47):zS s=s.length:=by
 unfold zS
 rw [List.findIdx_eq_length]
 intro c hc
 simpa using h c hc
theorem znh {s t:List UInt8} (h:∀c∈s,c≠47):zS (s++[47]++t)=s.length:=by
 unfold zS
 induction s with
 | nil=>simp [List.findIdx_cons]
 | cons c s ih =>
  have hc:(c == 47)=false:=by simpa using h c (List.mem_cons_self ..)
  rw [List.cons_append,List.cons_append,List.findIdx_cons,hc,cond_false,List.length_cons]
  congr 1
  exact ih fun d hd=>h d (List.mem_cons_of_mem _ hd)
section
variable {p:Rat}
theorem zmc {x:Int} (h:x.natAbs<big):textS (nz x).1 (nz x).2=Lib.itoa x:=zbD h
theorem zma {k:Nat} (h:Sz k p) (hk:k≤2048):textR (rq (some p))=if p.den=1 then Lib.itoa p.num else Lib.itoa p.num++[47]++Lib.itoa (p.den:Int):=by
 have e1:textS (rq (some p)).1.1 (rq (some p)).1.2=Lib.itoa p.num:=zmc (h.nb hk)
 have e2:textS (rq (some p)).2.1 (rq (some p)).2.2=Lib.itoa (p.den:Int):=zmc (x:=(p.den:Int)) (by rw [Int.natAbs_natCast];exact h.db hk)
 have e3:cmpX (rq (some p)).2 (nz 1)=cmpI (p.den:Int) 1:=zdy (by rw [Int.natAbs_natCast];exact h.db hk) (qF (by decide))
 unfold textR
 rw [if_pos (rr_sz h hk),e1,e2,e3]
 have:(cmpI (p.den:Int) 1=0)↔p.den=1:=by
  unfold cmpI
  split
  ·constructor<;>intro h<;>omega
  ·split
   ·constructor<;>intro h<;>omega
   ·constructor<;>intro h<;>omega
 simp only [this]
theorem zpQ (h:Sz 97 p):(textR (rq (some p))).length≤63:=by
 rw [zma h (by decide)]
 have h1:=zfV h.n
 have h2:=zfV (x:=(p.den:Int)) (by rw [Int.natAbs_natCast];exact h.d)
 split
 ·omega
 ·simp only [List.length_append,List.length_cons,List.length_nil];omega
theorem ziu {k:Nat} (h:Sz k p) (hk:k≤2048):rawP (textR (rq (some p)))=rq (some p)∧okO (zp (zQ (textR (rq (some p)))))=true∧okO (zp (zP (textR (rq (some p)))))=true:=by
 have a1:=zcS (h.nb hk)
 have a2:=zcS (x:=(p.den:Int)) (by rw [Int.natAbs_natCast];exact h.db hk)
 have hs:=zmC p.num
 obtain ⟨t,ht⟩:∃t,textR (rq (some p))=t:=⟨_,rfl⟩
 rw [ht]
 rw [zma h hk] at ht
 have key:zQ t=Lib.itoa p.num∧zp (zP t)=some (p.den:Int):=by
  by_cases hd:p.den=1
  ·rw [if_pos hd] at ht
   subst ht
   unfold zQ zP
   rw [zng hs,if_neg (by omega),List.take_length]
   refine ⟨rfl,?_⟩
   rw [hd,show ([49]:List UInt8)=Lib.itoa 1 by decide +kernel]
   exact zcS (x:=1) (qF (by decide))
  ·rw [if_neg hd] at ht
   subst ht
   unfold zQ zP
   rw [znh hs,if_pos (by simp),List.append_assoc,List.take_left]
   refine ⟨rfl,?_⟩
   rw [← List.append_assoc,List.drop_append_of_le_length (by simp)]
   rw [List.drop_of_length_le (by simp),List.nil_append]
   exact a2
 refine ⟨?_,?_,?_⟩
 ·unfold rawP
  rw [key.1,key.2,a1];rfl
 ·rw [key.1,a1];rfl
 ·rw [key.2];rfl
theorem zlQ {k:Nat} (h:Sz k p) (hk:k≤2048):okP (textR (rq (some p)))=true:=by
 obtain ⟨h1,h2,h3⟩:=ziu h hk
 unfold okP
 rw [h1,h2,h3,rr_sz h hk]
 simp
theorem zpf {k:Nat} (h:Sz k p) (hk:k≤2048):parR (textR (rq (some p)))=rq (some p):=by
 unfold parR
 rw [if_pos (zlQ h hk)]
 exact (ziu h hk).1
end
theorem zeL (l:List Int):∃t,textR (rq (madeR l))=t∧t.length≤63∧okP t=true∧parR t=rq (madeR l):=by
 obtain ⟨p,e,h⟩:=ztO l
 rw [e]
 exact ⟨_,rfl,zpQ h,zlQ h (by decide),zpf h (by decide)⟩
end Go.Proofs.YtjcegdldgjphiaaGreatDoor
namespace Go.Proofs.YtjcegdldgjphiaaGreatDoor
open Go.RowKit Go.Shelf
def rdR (st:St):RR×St:=match (rdT st).2 with
 | none=>(rq none,none)
 | some l=>if okP (rdT st).1=true then (parR (rdT st).1,some l) else (rq none,none)
def encR (x:RR):List UInt8:=encT (textR x)
def OkF (x:RR):Prop:=okP (textR x)=true∧parR (textR x)=x∧LenI (textR x)
theorem zrc (l:List Int):OkF (rq (madeR l)):=by
 obtain ⟨t,ht,hlen,hok,hpar⟩:=zeL l
 unfold OkF LenI
 rw [ht]
 exact ⟨hok,hpar,by omega⟩
end Go.Proofs.YtjcegdldgjphiaaGreatDoor
namespace Go.Proofs.YtjcegdldgjphiaaGreatDoor
open Go.RowKit Go.Shelf
structure w_li_l_T where
 s:St
 o:(List Int)
def qI:List Atom:=[.sl 0 (.o (.c (.p 900 0))),.sl 1 (.o (.c (.m 36 900 0))),.sl 4 (.o (.c (.k (.slice none 0 0)))),.sl 5 (yh 2),.sl 6 (.o (.c (.gr 901))),.sl 7 (.o (.c (.p 900 0))),.sl 8 (yh 2),.bx 900 62 [.h 5,.h 6],.gl 901 3 1 1]
def zaG:LoopS:=⟨3,[.sl 0 (.o (.c (.p 900 0))),.sl 1 (.o (.c (.m 36 900 0))),.sl 4 (.o (.c (.k (.slice none 0 0)))),.sl 5 (yh 2),.sl 6 (.o (.c (.gr 901))),.sl 7 (.o (.c (.p 900 0))),.sl 8 (yh 2),.bx 900 62 [.h 3,.h 4],.gl 901 3 1 0],(.x 0),[.sl 0 (.o (.c (.p 900 0))),.sl 1 (.o (.c (.m 36 900 0))),.sl 4 (.o (.c (.k (.slice none 0 0)))),.sl 5 (yh 2),.sl 6 (.o (.c (.gr 901))),.sl 7 (.o (.c (.p 900 0))),.sl 8 (yh 2),.bx 900 62 [.h 5,.h 6],.gl 901 3 1 1]⟩
abbrev zyD:List (Nat×Ent):=(1005001,.op (.len [22] 3) [LF (.gr 901)] [.gl 901 3 1 1] (yh 7))::(1005003,.bin .lss 3 (yh 7) (yh 2) (yh 8))::[]
abbrev zyE:List (Nat×Ent):=(10008,.fb 8 true)::(1005006,.call ⟨23,[.o (.c (.p 900 0))],[.bx 900 62 [.h 5,.h 6]],yh 9,[.bx 900 62 [.h 5,.h 6]]⟩)::(1005007,.un .not (yh 9) (yh 10))::zyD
abbrev zzJ:List (Nat×Ent):=(10010,.fb 10 true)::(1005011,.call ⟨36,[.o (.c (.p 900 0))],[.bx 900 62 [.h 5,.h 6]],yh 11,[.bx 900 62 [.h 12,.h 13]]⟩)::(1005013,.app 3 1 901 1 2 (.o (.c (.s 5012 0 1 1))) [.bx 5012 3 [.h 11]] false)::zyE
abbrev zzK:List (Nat×Ent):=(10010,.fb 10 false)::zyE
abbrev zzL:List (Nat×Ent):=(10008,.fb 8 false)::zyD
theorem ziG {w0:World} (st:St) (v1:Int) (v2:St) (s2:St) (o2:(List Int)) {F:Fact} (u2:F.c 2=pI v1) (u3:F.c 3=pS (lfO v2)) (u4:F.c 4=pB (bdO v2)) (u5:F.c 5=pS (lfO s2)) (u6:F.c 6=pB (bdO s2)) (ug0:F.g 0=pG cI ([]:List Int)) (ug1:F.g 1=pG cI o2) (R:Frm) (hR:R.pm=⟨ntOf Tryz.prog 66,[900],[]⟩) (hn0:0≤v1) (hb:v1≤1000000) (hO:s2=(rdN rdI v1.toNat [] v2).2∧o2=(rdN rdI v1.toNat [] v2).1):zj (KN w0) Tryz.prog F R zaG (lp Tryz.prog 66 0):=by
 refine zG (T:=w_li_l_T) (fun t=>FL [pS (lfO st),pB (bdO st),pI v1,pS (lfO v2),pB (bdO v2),pS (lfO t.s),pB (bdO t.s)] [pG cI ([]:List Int),pG cI t.o]) (fun ⟨s,o⟩=>o.length≤v1.toNat∧rdN rdI v1.toNat [] v2=rdN rdI (v1.toNat - o.length) o s) (fun ⟨s,o⟩=>v1.toNat - o.length) { s:=v2,o:=([]:List Int) } qI ⟨Nat.zero_le _,rfl⟩ (LZ ⟨z_c yy,z_c yy,z_c yy,z_c (LU u2),z_c yy,z_c yy,z_c (LU u2),z_b ⟨LU u3,LU u4,trivial⟩,z_gq ug0 rfl,trivial⟩) rfl fun t hJ=>?_
 obtain ⟨s,o⟩:=t
 dsimp only at hJ
 obtain ⟨hle,hJ⟩:=hJ
 obtain ⟨v501,e501⟩:=LX ((o.length:Int))
 obtain ⟨v502,e502⟩:=LX (decide (v501<v1))
 let A1:List Pred→List Pred:=fun t=>pS (lfO st)::pB (bdO st)::pI v1::pS (lfO v2)::pB (bdO v2)::pS (lfO s)::pB (bdO s)::pI v501::pB v502::t
 have f1:LA (KN w0) A1:=fun t h=>⟨zc,zc,zc,zc,zc,zc,zc,zc,zc,h⟩
 let G1:List LPred→List LPred:=fun t=>pG cI ([]:List Int)::pG cI o::t
 have g1:LG (KN w0) G1:=fun t h=>⟨(zy zl),(zy zl),h⟩
 have T1:LH (KN w0) Tryz.prog A1 G1 zyD:=fun t u=>⟨zfS (c:=cI) (by kernel_rfl) (fun _=>rfl) (by decide) rfl (za (by rw [e501];rfl)),e_bin (za rfl) (za rfl) (za rfl) (r_cmp (LO e502)),trivial⟩
 cases h503:v502 with
 | true =>
  obtain ⟨v504,e504⟩:=LX (bdO s)
  obtain ⟨v505,e505⟩:=LX (!v504)
  let A2:=fun t=>A1 (pB v504::pB v505::t)
  have f2:LA (KN w0) A2:=fun t h=>f1 _ ⟨zc,zc,h⟩
  have T2:LH (KN w0) Tryz.prog A2 G1 zyE:=fun t u=>⟨e_fbv h503,b_con (pan:=false) (w_bad s v504 e504),e_un (za rfl) (za rfl) (fun W=>by rw [← e505];exact r_not W),T1 _ _⟩
  cases h506:v505 with
  | true =>
   obtain ⟨v507,e507⟩:=LX ((rdI s).1)
   obtain ⟨v508,e508⟩:=LX ((rdI s).2)
   obtain ⟨v509,e509⟩:=LX (o++[v507])
   have s510:(o.length+1)*1≤1099511627776:=by (have d:=LD e502 h503;omega)
   let A3:=fun t=>A2 (pI v507::pS (lfO v508)::pB (bdO v508)::t)
   have f3:LA (KN w0) A3:=fun t h=>f2 _ ⟨zc,zc,zc,h⟩
   let G3:=fun t=>G1 (pG cI v509::t)
   have g3:LG (KN w0) G3:=fun t h=>g1 _ ⟨(zy zl),h⟩
   have T3:LH (KN w0) Tryz.prog A3 G3 zzJ:=fun t u=>⟨e_fbv h506,b_con (pan:=false) (zai s v507 v508 e507 e508),zfR (c:=cI) (x:=v507) zl (fun _=>rfl) (.inr ⟨rfl,rfl⟩) (by rw [e509];rfl) rfl (fun _ _ _ h=>h) rfl s510,T2 _ _⟩
   refine .inr ⟨⟨v508,v509⟩,?_,?_,goes (x:=.n) (y:=.n) (Fb:=FL (A3 []) (G3 [])) (stb:=qI) (tl:=[.sl 0 (.o (.c (.p 900 0))),.sl 1 (.o (.c (.m 36 900 0))),.sl 4 (.o (.c (.k (.slice none 0 0)))),.sl 5 (yh 2),.sl 6 (.o (.c (.gr 901))),.sl 7 (.o (.c (.p 900 0))),.sl 8 (yh 2),.bx 900 62 [.h 12,.h 13],.gl 901 3 1 2]) (C:=zzJ) (H:=.no) 5000 (LZ ⟨z_c yy,z_c yy,z_c yy,z_c yy,z_c yy,z_c yy,z_c yy,z_b ⟨yy,yy,trivial⟩,z_gl (fun _ _ _ h=>h),trivial⟩) (zg (f3 [] trivial) (g3 [] trivial)) (T3 [] []) mixed hR trivial (fun _ _ _ hs=>by cases hs) (by kernel_rfl) rfl (LZ ⟨z_c yy,z_c yy,z_c yy,z_c yy,z_c yy,z_c yy,z_c yy,z_b ⟨fun β v W h=>(zd rfl β v W).2 h,fun β v W h=>(zd rfl β v W).2 h,trivial⟩,z_gq rfl rfl,trivial⟩)⟩
   all_goals (have d:=LD e502 h503;have hz:bdO s=false:=(by rw [e504];cases v504<;>simp_all);obtain ⟨m,hm⟩:=qn.1 hz;have hl:v509.length=o.length+1:=(by rw [← e509,List.length_append];rfl))
   ·show v1.toNat - v509.length<v1.toNat - o.length
    omega
   ·refine ⟨by show v509.length≤_;omega,?_⟩
    show _=rdN rdI (v1.toNat - v509.length) v509 v508
    rw [hJ,show v1.toNat - o.length=(v1.toNat - v509.length)+1 by omega,hm,rdN,← hm,e507,e508,e509]
  | false =>
   have T4:LH (KN w0) Tryz.prog A2 G1 zzK:=fun t u=>⟨e_fbv h506,T2 _ _⟩
   have hq:((s)=s2)∧((o)=o2)∧True:=by
    refine ⟨?_,?_,trivial⟩
    all_goals (have hz:s=none:=q9.1 (by rw [e504];cases v504<;>simp_all);rw [hJ,hz,zhj] at hO)
    ·rw [hz,hO.1]
    ·rw [hO.2]
   obtain ⟨q0,q1,-⟩:=hq
   exact .inl (goes (x:=(.x 0)) (y:=(.x 0)) (Fb:=FL (A2 []) (G1 [])) (stb:=qI) (tl:=[.sl 0 (.o (.c (.p 900 0))),.sl 1 (.o (.c (.m 36 900 0))),.sl 4 (.o (.c (.k (.slice none 0 0)))),.sl 5 (yh 2),.sl 6 (.o (.c (.gr 901))),.sl 7 (.o (.c (.p 900 0))),.sl 8 (yh 2),.bx 900 62 [.h 5,.h 6],.gl 901 3 1 1]) (C:=zzK) (H:=.no) 5000 (LZ ⟨z_c yy,z_c yy,z_c yy,z_c yy,z_c yy,z_c yy,z_c yy,z_b ⟨yy,yy,trivial⟩,z_gl (fun _ _ _ h=>h),trivial⟩) (zg (f2 [] trivial) (g1 [] trivial)) (T4 [] []) mixed hR trivial (fun _ _ _ hs=>by cases hs) (by kernel_rfl) rfl (LZ ⟨z_c yy,z_c yy,z_c yy,z_c (LV u2),z_c yy,z_c yy,z_c (LV u2),z_b ⟨fun β v W h=>(zd u5 β v W).2 (by rw [← q0];exact h),fun β v W h=>(zd u6 β v W).2 (by rw [← q0];exact h),trivial⟩,z_gq rfl (by rw [ug1,← q1];rfl),trivial⟩))
 | false =>
  have T5:LH (KN w0) Tryz.prog A1 G1 zzL:=fun t u=>⟨e_fbv h503,T1 _ _⟩
  have hq:((s)=s2)∧((o)=o2)∧True:=by
   refine ⟨?_,?_,trivial⟩
   all_goals (have d:=LE e502 h503;rw [hJ,show v1.toNat - o.length=0 by omega,rdN] at hO)
   ·rw [hO.1]
   ·rw [hO.2]
  obtain ⟨q0,q1,-⟩:=hq
  exact .inl (goes (x:=(.x 0)) (y:=(.x 0)) (Fb:=FL (A1 []) (G1 [])) (stb:=qI) (tl:=[.sl 0 (.o (.c (.p 900 0))),.sl 1 (.o (.c (.m 36 900 0))),.sl 4 (.o (.c (.k (.slice none 0 0)))),.sl 5 (yh 2),.sl 6 (.o (.c (.gr 901))),.sl 7 (.o (.c (.p 900 0))),.sl 8 (yh 2),.bx 900 62 [.h 5,.h 6],.gl 901 3 1 1]) (C:=zzL) (H:=.no) 5000 (LZ ⟨z_c yy,z_c yy,z_c yy,z_c yy,z_c yy,z_c yy,z_c yy,z_b ⟨yy,yy,trivial⟩,z_gl (fun _ _ _ h=>h),trivial⟩) (zg (f1 [] trivial) (g1 [] trivial)) (T5 [] []) mixed hR trivial (fun _ _ _ hs=>by cases hs) (by kernel_rfl) rfl (LZ ⟨z_c yy,z_c yy,z_c yy,z_c (LV u2),z_c yy,z_c yy,z_c (LV u2),z_b ⟨fun β v W h=>(zd u5 β v W).2 (by rw [← q0];exact h),fun β v W h=>(zd u6 β v W).2 (by rw [← q0];exact h),trivial⟩,z_gq rfl (by rw [ug1,← q1];rfl),trivial⟩))
abbrev zz1:List (Nat×Ent):=(1000002,.call ⟨81,[.o (.c (.p 900 0))],[.bx 900 62 [.h 0,.h 1]],yh 2,[.bx 900 62 [.h 3,.h 4]]⟩)::(1001006,.call ⟨23,[.o (.c (.p 900 0))],[.bx 900 62 [.h 5,.h 6]],yh 7,[.bx 900 62 [.h 5,.h 6]]⟩)::[]
abbrev zAw:List (Nat×Ent):=(10007,.fb 7 true)::zz1
abbrev zAx:List (Nat×Ent):=(10007,.fb 7 false)::zz1
theorem w_li {w0:World} (st:St) (r:List Int) (st2:St) (hr:(rdL rdI st).1=r) (hs:(rdL rdI st).2=st2) (hle:leftN (rdC st).2≤1000000):BFun false (KN w0) Tryz.prog 66 [.o (.c (.p 0 0)),.o (.c (.m 36 0 0))] [(62,[.d (pS (lfO st)),.d (pB (bdO st))])] (.o (.c (.d (pLs cI r)))) [(62,[.d (pS (lfO st2)),.d (pB (bdO st2))])]:=by
 obtain ⟨v1,e1⟩:=LX ((rdC st).1)
 obtain ⟨v2,e2⟩:=LX ((rdC st).2)
 obtain ⟨s2,o2,hO_w_li_l⟩:∃(s2:St) (o2:(List Int)),s2=(rdN rdI v1.toNat [] v2).2∧o2=(rdN rdI v1.toNat [] v2).1:=⟨_,_,rfl,rfl⟩
 obtain ⟨v3,e3⟩:=LX (bdO s2)
 let A1:List Pred→List Pred:=fun t=>pS (lfO st)::pB (bdO st)::pI v1::pS (lfO v2)::pB (bdO v2)::pS (lfO s2)::pB (bdO s2)::pB v3::pLs cI o2::t
 have f1:LA (KN w0) A1:=fun t h=>⟨zc,zc,zc,zc,zc,zc,zc,zc,(zi zl),h⟩
 let G1:List LPred→List LPred:=fun t=>pG cI ([]:List Int)::pG cI o2::t
 have g1:LG (KN w0) G1:=fun t h=>⟨(zy zl),(zy zl),h⟩
 have T1:LH (KN w0) Tryz.prog A1 G1 zz1:=fun t u=>⟨b_con (pan:=false) (zbG st v1 v2 e1 e2),b_con (pan:=false) (w_bad s2 v3 e3),trivial⟩
 cases h4:v3 with
 | true =>
  have T2:LH (KN w0) Tryz.prog A1 G1 zAw:=fun t u=>⟨e_fbv h4,T1 _ _⟩
  have L_w_li_l:∀R:Frm,R.pm=⟨ntOf Tryz.prog 66,[900],[]⟩→zj (KN w0) Tryz.prog (FL (A1 []) (G1 [])) R zaG (lp Tryz.prog 66 0):=fun R hR=>ziG st v1 v2  s2 o2 rfl rfl rfl rfl rfl rfl rfl R hR (by rw [← e1];exact zaR st) (by have h0:=zcI st;have h1:=hle;rw [← e1];have h2:=zaR st;omega) hO_w_li_l
  have r0:r=[]:=by
   have hb:s2=none:=q9.1 (e3.trans h4)
   have hL:rdL rdI st=([],s2):=by
    unfold rdL
    rw [e1,e2,← hO_w_li_l.1,hb]
   first | rw [← hr,hL] | rw [← hs,hL]
  have r1:st2=s2:=by
   have hb:s2=none:=q9.1 (e3.trans h4)
   have hL:rdL rdI st=([],s2):=by
    unfold rdL
    rw [e1,e2,← hO_w_li_l.1,hb]
   first | rw [← hr,hL] | rw [← hs,hL]
  rw [r0,r1];exact BFun.fin (r:=.o (.c (.d (pV (.slice none 0 0))))) (con_b (pan:=false) (zN (F:=FL (A1 []) (G1 [])) (C:=zAw) (k:=⟨66,[.o (.c (.p 900 0)),.o (.c (.m 36 900 0))],[.bx 900 62 [.h 0,.h 1]],.o (.c (.k (.slice none 0 0))),[.bx 900 62 [.h 5,.h 6]]⟩) ⟨[zaG],[⟨2,[.sl 6 (.o (.c (.k (.slice none 0 0)))),.gn 901],[.sl 6 (.o (.c (.gr 901))),.gl 901 3 1 0],[]⟩,⟨5,.gl 901 3 1 1::[6].map (fun s=>.sl s (.o (.c (.gr 901)))),[6].map (fun s=>.sl s (yh 8)),[901]⟩],0⟩ [901] 0 (zg (f1 [] trivial) (g1 [] trivial)) (T2 [] []) mixed ⟨zaW (c:=cI) rfl,zbw (c:=cI) (fun _=>rfl) (by decide) zl rfl rfl,trivial⟩ (fun R hR p hp s hs=>by
   have hl:zD (zR Tryz.prog 66)=[(3,lp Tryz.prog 66 0)]:=by kernel_rfl
   rw [hl] at hp
   simp only [List.mem_cons,List.not_mem_nil,or_false] at hp
   rcases hp with rfl
   ·have e:s=zaG:=(Option.some.inj hs).symm
    subst e;exact L_w_li_l R hR) (by kernel_rfl))) (fun _ _ _ _ h=>zij h)
 | false =>
  have T3:LH (KN w0) Tryz.prog A1 G1 zAx:=fun t u=>⟨e_fbv h4,T1 _ _⟩
  have L_w_li_l:∀R:Frm,R.pm=⟨ntOf Tryz.prog 66,[900],[]⟩→zj (KN w0) Tryz.prog (FL (A1 []) (G1 [])) R zaG (lp Tryz.prog 66 0):=fun R hR=>ziG st v1 v2  s2 o2 rfl rfl rfl rfl rfl rfl rfl R hR (by rw [← e1];exact zaR st) (by have h0:=zcI st;have h1:=hle;rw [← e1];have h2:=zaR st;omega) hO_w_li_l
  have r0:r=o2:=by
   obtain ⟨m,hm⟩:=qn.1 (e3.trans h4)
   have hL:rdL rdI st=(o2,s2):=by
    unfold rdL
    rw [e1,e2,← hO_w_li_l.1,← hO_w_li_l.2,hm]
   first | rw [← hr,hL] | rw [← hs,hL]
  have r1:st2=s2:=by
   obtain ⟨m,hm⟩:=qn.1 (e3.trans h4)
   have hL:rdL rdI st=(o2,s2):=by
    unfold rdL
    rw [e1,e2,← hO_w_li_l.1,← hO_w_li_l.2,hm]
   first | rw [← hr,hL] | rw [← hs,hL]
  rw [r0,r1];exact con_b (pan:=false) (zN (F:=FL (A1 []) (G1 [])) (C:=zAx) (k:=⟨66,[.o (.c (.p 900 0)),.o (.c (.m 36 900 0))],[.bx 900 62 [.h 0,.h 1]],yh 8,[.bx 900 62 [.h 5,.h 6]]⟩) ⟨[zaG],[⟨2,[.sl 6 (.o (.c (.k (.slice none 0 0)))),.gn 901],[.sl 6 (.o (.c (.gr 901))),.gl 901 3 1 0],[]⟩,⟨5,.gl 901 3 1 1::[6].map (fun s=>.sl s (.o (.c (.gr 901)))),[6].map (fun s=>.sl s (yh 8)),[901]⟩],0⟩ [901] 0 (zg (f1 [] trivial) (g1 [] trivial)) (T3 [] []) mixed ⟨zaW (c:=cI) rfl,zbw (c:=cI) (fun _=>rfl) (by decide) zl rfl rfl,trivial⟩ (fun R hR p hp s hs=>by
   have hl:zD (zR Tryz.prog 66)=[(3,lp Tryz.prog 66 0)]:=by kernel_rfl
   rw [hl] at hp
   simp only [List.mem_cons,List.not_mem_nil,or_false] at hp
   rcases hp with rfl
   ·have e:s=zaG:=(Option.some.inj hs).symm
    subst e;exact L_w_li_l R hR) (by kernel_rfl))
end Go.Proofs.YtjcegdldgjphiaaGreatDoor
