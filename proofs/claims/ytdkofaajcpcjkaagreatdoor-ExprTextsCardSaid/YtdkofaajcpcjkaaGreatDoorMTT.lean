/-
  Merged: ExIx.
-/
import Derived.Test.YtdkofaajcpcjkaaGreatDoorMTM
import Derived.Laws.RangeAny
import Derived.Laws.Runes
set_option linter.unusedSimpArgs false
set_option linter.unusedVariables false
namespace Go.Proofs.YtdkofaajcpcjkaaGreatDoor
open Go.RowKit
theorem zgl (s:ByteArray) (i:Nat) (hi:i<s.size) (hb:128≤(s.get! i).toNat):128≤(Utf8.decode s i).1∧(Utf8.decode s i).1<1114112∧1≤(Utf8.decode s i).2∧i+(Utf8.decode s i).2≤s.size∧∀k,k<(Utf8.decode s i).2→128≤(s.get! (i+k)).toNat:=by
 have h256:∀k,(s.get! k).toNat<256:=fun k=>(s.get! k).toNat_lt
 have one:∀k,k<1→128≤(s.get! (i+k)).toNat:=fun k hk=>by
  obtain rfl:k=0:=by omega
  exact hb
 unfold Utf8.decode
 simp only [Nat.add_zero]
 rw [if_neg (by omega)]
 have h0:=h256 i
 have h1:=h256 (i+1)
 have h2:=h256 (i+2)
 have h3:=h256 (i+3)
 split
 ·rename_i hc
  simp only [Bool.and_eq_true,beq_iff_eq,decide_eq_true_eq] at hc
  split
  ·rename_i hv
   refine ⟨hv,by simp only;omega,by simp,by simp only;omega,fun k hk=>?_⟩
   simp only at hk
   obtain rfl | rfl:k=0∨k=1:=by omega
   ·exact hb
   ·omega
  ·exact ⟨by decide,by decide,by decide,by simp only;omega,one⟩
 ·split
  ·rename_i hc
   simp only [Bool.and_eq_true,beq_iff_eq,decide_eq_true_eq] at hc
   split
   ·rename_i hv
    simp only [Bool.and_eq_true,decide_eq_true_eq] at hv
    refine ⟨by simp only;omega,by simp only;omega,by simp,by simp only;omega,fun k hk=>?_⟩
    simp only at hk
    obtain rfl | rfl | rfl:k=0∨k=1∨k=2:=by omega
    ·exact hb
    ·omega
    ·omega
   ·exact ⟨by decide,by decide,by decide,by simp only;omega,one⟩
  ·split
   ·rename_i hc
    simp only [Bool.and_eq_true,beq_iff_eq,decide_eq_true_eq] at hc
    split
    ·rename_i hv
     simp only [Bool.and_eq_true,decide_eq_true_eq,Utf8.valid,Bool.or_eq_true] at hv
     refine ⟨by simp only;omega,by simp only;omega,by simp,by simp only;omega,fun k hk=>?_⟩
     simp only at hk
     obtain rfl | rfl | rfl | rfl:k=0∨k=1∨k=2∨k=3:=by omega
     ·exact hb
     ·omega
     ·omega
     ·omega
    ·exact ⟨by decide,by decide,by decide,by simp only;omega,one⟩
   ·exact ⟨by decide,by decide,by decide,by simp only;omega,one⟩
theorem zih {r:Int} (h:Lib.validRune r=true):Utf8.valid r=true:=by
 revert h
 unfold Lib.validRune Utf8.valid
 simp only [Bool.or_eq_true,Bool.and_eq_true,decide_eq_true_eq]
 omega
section
variable {K:Kit} {P:Program} {F:Fact}
theorem r_cvr {S T:TypeId} {n:Int} {k:IntKind} (hs:(P.underlying S).isSome=true) (hd:P.underlying T=some .string) (W:World):(Sig.sem (.cv S T) [.int k n]).run P W=.ok (.string ⟨(Utf8.encode n).data.toList.toArray⟩) W:=run_convert_int_string W _ _ _ _ hs hd
end
theorem zgQ {w0:World} (s:List UInt8) (t:Int) (v:Int) (e:Lib.indexByte s t.toNat.toUInt8=v):Fun (KN w0) Tryz.prog 70 [.o (.c (pS s)),.o (.c (pV (.int .u8 t)))] (.o (.c (pI v))):=by
 intro W D vs hs hf
 obtain ⟨x,y,rfl,hx,hy⟩:=oka2 hs
 obtain rfl:x=.string ⟨s.toArray⟩:=hx
 obtain rfl:y=.int .u8 t:=hy
 refine (Tryz.strings_IndexByte ⟨s.toArray⟩ t W).mono fun e' W' hr=>?_
 obtain ⟨rfl,rfl⟩:=hr
 exact ⟨_,D,rfl,by rw [← e];rfl,Kept.of hf (Below.refl _ _)⟩
theorem zbU {w0:World} (t:Int) (v:Bool) (e:Lib.validRune t=v):Fun (KN w0) Tryz.prog 71 [.o (.c (pV (.int .i32 t)))] (.o (.c (pB v))):=by
 intro W D vs hs hf
 match vs,hs with
 | [x],⟨hx,_⟩ =>
  obtain rfl:x=.int .i32 t:=hx
  refine (Tryz.utf8_ValidRune t W).mono fun e' W' hr=>?_
  obtain ⟨rfl,rfl⟩:=hr
  exact ⟨_,D,rfl,by rw [← e];rfl,Kept.of hf (Below.refl _ _)⟩
theorem zmv {w0:World} (r:Int) (v1:Bool) (v3:Bool) (v5:Bool) (v7:Bool) (v8:Bool) (e1:(decide ((0:Int)≤r))=v1) (e3:(decide (r<(128:Int)))=v3) (e5:((r == (65533:Int)))=v5) (e7:(Lib.validRune r)=v7) (e8:(!v7)=v8) (s2:v1=true) (s4:v3=false) (s6:v5=false) (h9:v8=true):Fun (KN w0) Tryz.prog 49 [.o (.c (pV (.string ⟨#[32,40,41]⟩))),.o (.c (pV (.int .i32 r)))] (.o (.c (pV (.int .i64 (-1))))):=
 zk (zS (F:=FL [pV (.int .i32 r),pB v1,pB v3,pB v5,pB v7,pB v8] []) (C:=[(1000002,.bin .leq 21 (LF (.k (.int .i32 0))) (yh 0) (yh 1)),
  (10001,.fb 1 true),
  (1000005,.bin .lss 21 (yh 0) (LF (.k (.int .i32 128))) (yh 2)),
  (10002,.fb 2 false),
  (1000009,.bin .eql 21 (yh 0) (LF (.k (.int .i32 65533))) (yh 3)),
  (10003,.fb 3 false),
  (1000012,.call ⟨71,[yh 0],[],yh 4,[]⟩),
  (1000013,.un .not (yh 4) (yh 5)),
  (10005,.fb 5 true)]) (k:=⟨49,[.o (.c (.k (.string ⟨#[32,40,41]⟩))),yh 0],[],.o (.c (.k (.int .i64 (-1)))),[]⟩) ⟨[],[],1⟩ [] 0 (zg ⟨za,za,za,za,za,za,trivial⟩) ⟨e_bin zd (zb rfl) (zb rfl) (r_cmp (congrArg some e1)),
  e_fbv s2,
  e_bin (zb rfl) zd (zb rfl) (r_cmp (congrArg some e3)),
  e_fbv s4,
  e_bin (zb rfl) zd (zb rfl) (r_cmp (congrArg some e5)),
  e_fbv s6,
  zh (zbU r v7 e7),
  e_un (zb rfl) (zb rfl) (fun W=>by rw [← e8];exact r_not W),
  e_fbv h9,
  trivial⟩ mixed trivial (fun _ _ _ _ _ hs=>by cases hs) (by kernel_rfl))
theorem zmw {w0:World} (r:Int) (v1:Bool) (v3:Bool) (v5:Bool) (v7:Bool) (v8:Bool) (v10:(List UInt8)) (v11:Int) (v12:Int) (v13:Int) (v14:Bool) (n16:Nat) (b17:UInt8) (n20:Nat) (b21:UInt8) (v24:Bool) (v26:Int) (n27:Nat) (v29:(List UInt8)) (n31:Nat) (b32:UInt8) (v35:Int) (v36:Bool) (e1:(decide ((0:Int)≤r))=v1) (e3:(decide (r<(128:Int)))=v3) (e5:((r == (65533:Int)))=v5) (e7:(Lib.validRune r)=v7) (e8:(!v7)=v8) (e10:((Utf8.encode r).data.toList)=v10) (e11:(((v10:List UInt8).length:Int))=v11) (e12:(IntKind.i64.wrap (v11 - (1:Int)))=v12) (e13:((([32,40,41]:List UInt8).length:Int))=v13) (e14:(decide (v12<v13))=v14) (e24:(((b17.toNat:Int) != (b21.toNat:Int)))=v24) (e26:(IntKind.i64.wrap (v12+(1:Int)))=v26) (e29:(([32,40,41]:List UInt8).drop n27)=v29) (e35:(Lib.indexByte v29 ((b32.toNat:Int):Int).toNat.toUInt8)=v35) (e36:(decide (v35<(0:Int)))=v36) (s2:v1=true) (s4:v3=false) (s6:v5=false) (h9:v8=false) (h15:v14=true) (s18:v12=(n16:Int)) (s19:([32,40,41]:List UInt8)[n16]?=some b17) (s22:v12=(n20:Int)) (s23:(v10:List UInt8)[n20]?=some b21) (s25:v24=true) (s28:v26=(n27:Int)) (s30:n27≤([32,40,41]:List UInt8).length) (s33:v12=(n31:Int)) (s34:(v10:List UInt8)[n31]?=some b32) (s37:v36=true):Fun (KN w0) Tryz.prog 49 [.o (.c (pV (.string ⟨#[32,40,41]⟩))),.o (.c (pV (.int .i32 r)))] (.o (.c (pV (.int .i64 (-1))))):=
 zk (zS (F:=FL [pV (.int .i32 r),pB v1,pB v3,pB v5,pB v7,pB v8,pS v10,pI v11,pI v12,pI v13,pB v14,pV (.int .u8 (b17.toNat:Int)),pV (.int .u8 (b21.toNat:Int)),pB v24,pI v26,pS v29,pV (.int .u8 (b32.toNat:Int)),pI v35,pB v36] []) (C:=[(1000002,.bin .leq 21 (LF (.k (.int .i32 0))) (yh 0) (yh 1)),
  (10001,.fb 1 true),
  (1000005,.bin .lss 21 (yh 0) (LF (.k (.int .i32 128))) (yh 2)),
  (10002,.fb 2 false),
  (1000009,.bin .eql 21 (yh 0) (LF (.k (.int .i32 65533))) (yh 3)),
  (10003,.fb 3 false),
  (1000012,.call ⟨71,[yh 0],[],yh 4,[]⟩),
  (1000013,.un .not (yh 4) (yh 5)),
  (10005,.fb 5 false),
  (1000016,.op (.cv 21 9) [yh 0] [] (yh 6)),
  (1000019,.op (.len [9] 3) [yh 6] [] (yh 7)),
  (1000020,.bin .sub 3 (yh 7) (LF (.k (.int .i64 1))) (yh 8)),
  (1000027,.op (.len [9] 3) [LF (.k (.string ⟨#[32,40,41]⟩))] [] (yh 9)),
  (1000028,.bin .lss 3 (yh 8) (yh 9) (yh 10)),
  (10010,.fb 10 true),
  (1000031,.op (.ix 9) [LF (.k (.string ⟨#[32,40,41]⟩)),yh 8] [] (yh 11)),
  (1000034,.op (.ix 9) [yh 6,yh 8] [] (yh 12)),
  (1000035,.bin .neq 5 (yh 11) (yh 12) (yh 13)),
  (10013,.fb 13 true),
  (1000038,.bin .add 3 (yh 8) (LF (.k (.int .i64 1))) (yh 14)),
  (1000039,.op (.sc 9 true false false) [LF (.k (.string ⟨#[32,40,41]⟩)),yh 14] [] (yh 15)),
  (1000042,.op (.ix 9) [yh 6,yh 8] [] (yh 16)),
  (1000043,.call ⟨70,[yh 15,yh 16],[],yh 17,[]⟩),
  (1000046,.bin .lss 3 (yh 17) (LF (.k (.int .i64 0))) (yh 18)),
  (10018,.fb 18 true)]) (k:=⟨49,[.o (.c (.k (.string ⟨#[32,40,41]⟩))),yh 0],[],.o (.c (.k (.int .i64 (-1)))),[]⟩) ⟨[],[],1⟩ [] 0 (zg ⟨za,za,za,za,za,za,za,za,za,za,za,za,za,za,za,za,za,za,za,trivial⟩) ⟨e_bin zd (zb rfl) (zb rfl) (r_cmp (congrArg some e1)),
  e_fbv s2,
  e_bin (zb rfl) zd (zb rfl) (r_cmp (congrArg some e3)),
  e_fbv s4,
  e_bin (zb rfl) zd (zb rfl) (r_cmp (congrArg some e5)),
  e_fbv s6,
  zh (zbU r v7 e7),
  e_un (zb rfl) (zb rfl) (fun W=>by rw [← e8];exact r_not W),
  e_fbv h9,
  e_op1 (zb rfl) (zb rfl) (fun W=>by rw [← e10];exact r_cvr (by kernel_rfl) (by kernel_rfl) W),
  e_op1 (zb rfl) (zb rfl) (fun W=>by rw [← e11];exact qf (by kernel_rfl) W),
  e_bin (zb rfl) zd (zb rfl) (r_ar (congrArg some e12)),
  e_op1 zd (zb rfl) (fun W=>by rw [← e13];exact qf (by kernel_rfl) W),
  e_bin (zb rfl) (zb rfl) (zb rfl) (r_cmp (congrArg some e14)),
  e_fbv h15,
  e_op2 zd (zb rfl) (zb rfl) (r_ix (by kernel_rfl) s18 s19),
  e_op2 (zb rfl) (zb rfl) (zb rfl) (r_ix (by kernel_rfl) s22 s23),
  e_bin (zb rfl) (zb rfl) (zb rfl) (r_cmp (congrArg some e24)),
  e_fbv s25,
  e_bin (zb rfl) zd (zb rfl) (r_ar (congrArg some e26)),
  e_op2 zd (zb rfl) (zb rfl) (fun W=>by rw [← e29];exact zhT (by kernel_rfl) s28 s30 W),
  e_op2 (zb rfl) (zb rfl) (zb rfl) (r_ix (by kernel_rfl) s33 s34),
  zh (zgQ v29 (b32.toNat:Int) v35 e35),
  e_bin (zb rfl) zd (zb rfl) (r_cmp (congrArg some e36)),
  e_fbv s37,
  trivial⟩ mixed trivial (fun _ _ _ _ _ hs=>by cases hs) (by kernel_rfl))
theorem zmx {w0:World} (r:Int) (v1:Bool) (v3:Bool) (v5:Bool) (v7:Bool) (v8:Bool) (v10:(List UInt8)) (v11:Int) (v12:Int) (v13:Int) (v14:Bool) (e1:(decide ((0:Int)≤r))=v1) (e3:(decide (r<(128:Int)))=v3) (e5:((r == (65533:Int)))=v5) (e7:(Lib.validRune r)=v7) (e8:(!v7)=v8) (e10:((Utf8.encode r).data.toList)=v10) (e11:(((v10:List UInt8).length:Int))=v11) (e12:(IntKind.i64.wrap (v11 - (1:Int)))=v12) (e13:((([32,40,41]:List UInt8).length:Int))=v13) (e14:(decide (v12<v13))=v14) (s2:v1=true) (s4:v3=false) (s6:v5=false) (h9:v8=false) (h15:v14=false):Fun (KN w0) Tryz.prog 49 [.o (.c (pV (.string ⟨#[32,40,41]⟩))),.o (.c (pV (.int .i32 r)))] (.o (.c (pV (.int .i64 (-1))))):=
 zk (zS (F:=FL [pV (.int .i32 r),pB v1,pB v3,pB v5,pB v7,pB v8,pS v10,pI v11,pI v12,pI v13,pB v14] []) (C:=[(1000002,.bin .leq 21 (LF (.k (.int .i32 0))) (yh 0) (yh 1)),
  (10001,.fb 1 true),
  (1000005,.bin .lss 21 (yh 0) (LF (.k (.int .i32 128))) (yh 2)),
  (10002,.fb 2 false),
  (1000009,.bin .eql 21 (yh 0) (LF (.k (.int .i32 65533))) (yh 3)),
  (10003,.fb 3 false),
  (1000012,.call ⟨71,[yh 0],[],yh 4,[]⟩),
  (1000013,.un .not (yh 4) (yh 5)),
  (10005,.fb 5 false),
  (1000016,.op (.cv 21 9) [yh 0] [] (yh 6)),
  (1000019,.op (.len [9] 3) [yh 6] [] (yh 7)),
  (1000020,.bin .sub 3 (yh 7) (LF (.k (.int .i64 1))) (yh 8)),
  (1000027,.op (.len [9] 3) [LF (.k (.string ⟨#[32,40,41]⟩))] [] (yh 9)),
  (1000028,.bin .lss 3 (yh 8) (yh 9) (yh 10)),
  (10010,.fb 10 false)]) (k:=⟨49,[.o (.c (.k (.string ⟨#[32,40,41]⟩))),yh 0],[],.o (.c (.k (.int .i64 (-1)))),[]⟩) ⟨[],[],1⟩ [] 0 (zg ⟨za,za,za,za,za,za,za,za,za,za,za,trivial⟩) ⟨e_bin zd (zb rfl) (zb rfl) (r_cmp (congrArg some e1)),
  e_fbv s2,
  e_bin (zb rfl) zd (zb rfl) (r_cmp (congrArg some e3)),
  e_fbv s4,
  e_bin (zb rfl) zd (zb rfl) (r_cmp (congrArg some e5)),
  e_fbv s6,
  zh (zbU r v7 e7),
  e_un (zb rfl) (zb rfl) (fun W=>by rw [← e8];exact r_not W),
  e_fbv h9,
  e_op1 (zb rfl) (zb rfl) (fun W=>by rw [← e10];exact r_cvr (by kernel_rfl) (by kernel_rfl) W),
  e_op1 (zb rfl) (zb rfl) (fun W=>by rw [← e11];exact qf (by kernel_rfl) W),
  e_bin (zb rfl) zd (zb rfl) (r_ar (congrArg some e12)),
  e_op1 zd (zb rfl) (fun W=>by rw [← e13];exact qf (by kernel_rfl) W),
  e_bin (zb rfl) (zb rfl) (zb rfl) (r_cmp (congrArg some e14)),
  e_fbv h15,
  trivial⟩ mixed trivial (fun _ _ _ _ _ hs=>by cases hs) (by kernel_rfl))
theorem zlR {r:Int} (hv:Utf8.valid r=true) (h0:128≤r):2≤(Utf8.encode r).data.toList.length∧(Utf8.encode r).data.toList.length≤4∧∀b,(Utf8.encode r).data.toList[(Utf8.encode r).data.toList.length - 1]?=some b→128≤b.toNat:=by
 obtain ⟨z1,z2,z3⟩:=encode_facts r hv h0
 have hs:(Utf8.encode r).data.toList.length=(Utf8.encode r).size:=Array.length_toList
 rw [hs]
 refine ⟨z1,z2,fun b hb=>?_⟩
 have:=z3 (by omega)
 rw [Lib.data_getElem? (Utf8.encode r) _ (by omega)] at hb
 injection hb with hb
 rw [← hb];exact this
theorem x_ixr {w0:World} {r:Int} (h0:128≤r) (he:r≠65533):Fun (KN w0) Tryz.prog 49 [.o (.c (pV (.string ⟨#[32,40,41]⟩))),.o (.c (pV (.int .i32 r)))] (.o (.c (pV (.int .i64 (-1))))):=by
 have d1:decide ((0:Int)≤r)=true:=decide_eq_true (by omega)
 have d2:decide (r<(128:Int))=false:=decide_eq_false (by omega)
 have d3:(r == (65533:Int))=false:=beq_eq_false_iff_ne.2 he
 cases hv:Lib.validRune r with
 | false=>exact zmv r _ _ _ _ _ rfl rfl rfl rfl rfl d1 d2 d3 (by rw [hv];rfl)
 | true =>
  obtain ⟨z1,z2,z3⟩:=zlR (zih hv) h0
  obtain ⟨u,hu⟩:∃u,(Utf8.encode r).data.toList=u:=⟨_,rfl⟩
  rw [hu] at z1 z2 z3
  have hw:IntKind.i64.wrap ((u.length:Int) - 1)=(u.length:Int) - 1:=wri (by omega)
  have h8:(!Lib.validRune r)=false:=by rw [hv];rfl
  by_cases h4:u.length=4
  ·exact zmx r _ _ _ _ _ u _ _ _ _ rfl rfl rfl rfl rfl hu rfl rfl rfl rfl d1 d2 d3 h8 (by rw [hw,h4];rfl)
  ·obtain ⟨b,hb⟩:∃b,u[u.length - 1]?=some b:=⟨_,List.getElem?_eq_getElem (by omega)⟩
   have hb1:=z3 b hb
   have key:∀n:Nat,u.length=n+1→∀c:UInt8,([32,40,41]:List UInt8)[n]?=some c→c.toNat<128→∀l:List UInt8,([32,40,41]:List UInt8).drop (n+1)=l→(∀x∈l,x.toNat<128)→n<3→Fun (KN w0) Tryz.prog 49 [.o (.c (pV (.string ⟨#[32,40,41]⟩))),.o (.c (pV (.int .i32 r)))] (.o (.c (pV (.int .i64 (-1))))):=by
    intro n hn c hc hcl l hl hall hn3
    have hbn:u[n]?=some b:=by rw [hn] at hb;exact hb
    have e12:IntKind.i64.wrap ((u.length:Int) - 1)=(n:Int):=by rw [hw];omega
    have e26:IntKind.i64.wrap ((n:Int)+1)=((n+1:Nat):Int):=by rw [wri (by omega)];omega
    have hix:Lib.indexByte l ((b.toNat:Int)).toNat.toUInt8=-1:=by
     rw [show ((b.toNat:Int)).toNat.toUInt8=b by simp]
     have hcon:=Lib.contains_iff_indexByte l b
     have hnc:l.contains b=false:=by
      rw [Bool.eq_false_iff]
      intro h
      have:=hall b (by simpa using h)
      omega
     rw [hnc] at hcon
     have h9:¬ (0:Int)≤Lib.indexByte l b:=of_decide_eq_false hcon.symm
     have h10:=Lib.indexByte_ge l b
     omega
    exact zmw r _ _ _ _ _ u _ _ _ _ n c n b _ _ (n+1) l n b _ _ rfl rfl rfl rfl rfl hu rfl rfl rfl rfl rfl rfl hl rfl rfl d1 d2 d3 h8 (by rw [e12];exact decide_eq_true (by simp;omega)) e12 hc e12 hbn (by rw [bne_iff_ne];omega) (by rw [e12];exact e26) (by simp;omega) e12 hbn (by rw [hix];rfl)
   rcases (by omega:u.length=2∨u.length=3) with h | h
   ·exact key 1 h 40 rfl (by decide) [41] rfl (by simp) (by decide)
   ·exact key 2 h 41 rfl (by decide) [] rfl (by simp) (by decide)
end Go.Proofs.YtdkofaajcpcjkaaGreatDoor
