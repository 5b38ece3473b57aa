/-
  Merged: ExTextsP.
-/
import Derived.Test.YtdkofaajcpcjkaaGreatDoorMTN
import Derived.Test.YtdkofaajcpcjkaaGreatDoorMTV
import Derived.Test.YtdkofaajcpcjkaaGreatDoorCards
import Derived.Test.YtdkofaajcpcjkaaGreatDoorTie
import Derived.SevenTiedAt
set_option linter.unusedSimpArgs false
set_option linter.unusedVariables false
set_option maxRecDepth 100000
namespace Go.Proofs.YtdkofaajcpcjkaaGreatDoor
open Go.ChangeShapes Go.WideShapes Go.ChangeAt Go.RowKit Go.Joins Go.Deep
theorem zcT (os:Os) (started:os.Started) (H:Type) (enc:TypeId×Value→H) :
  ReturnsInHanded {} Tryz.checked os 3 .any (fun w args=>(Rows.exprTextsSpec.pre enc Tryz.prog Tryz.f3 [] false w args∧laidMetH Tryz.prog laidL w)∧sizedMet enc Tryz.prog Tryz.f3 (OpenSpec.ofChange Rows.exprTextsSpec) false w args)
   (Rows.exprTextsSpec.post enc Tryz.prog Tryz.f3 false true false false):=by
 refine zii (C:=Tryz.checked) (X:=fun w _=>laidMetH Tryz.prog laidL w) (fun _ _ _ hh h=>h.of_heap hh) Tryz.own started (by kernel_rfl) Tryz.func3
  (ChangeSpec.witness_shaped (enc:=enc) (C:=Tryz.checked) (os:=os) (X:=fun w _=>laidMetH Tryz.prog laidL w) false (World.doorLaid Tryz.prog 400 os) #[.agg #[.slice none 0 0,.int .i64 0,.int .i64 0,.int .i64 0,.int .i64 0,.int .i64 0,.int .i64 0],.int .u8 0,.int .u8 0,.int .u8 0,.string ⟨#[]⟩] 8 rfl (World.shaped_of_RefB (by kernel_rfl) (by kernel_rfl)) (by kernel_rfl) (by kernel_rfl) (by kernel_rfl) (zlP os _)) ?_
 intro W base args ds gs before hval0 hW hL hwt0
 have hval:∀(j:Nat) t v,Tryz.f3.params[j]?=some t→args[j]?=some v→Value.okWide Tryz.prog W .any base t v:=hval0
 have hwt:∀(j:Nat) t d,Tryz.f3.params.toList[j]?=some t→ds[j]?=some d→∀n∈d.weights Tryz.prog t,n≤reachBytes:=hwt0
 have hW':=hW
 obtain ⟨p,q,hA0,hV,rfl,hfz,hnd⟩:=hW
 have hA:DataW.TrodAll enc Tryz.prog W 0 (fun _=>true) true Tryz.f3.params.toList args.toList ds p:=hA0
 rw [Tryz.params3] at hA hval hwt
 obtain ⟨v0,v1,v2,v3,v4,d0,d1,d2,d3,d4,p0,p1,p2,p3,p4,rfl,rfl,rfl,h0,h1,h2,h3,h4⟩:=zfK hA
 obtain ⟨cs0,rfl,_⟩:=zeS Tryz.underlying26 (hval 0 26 v0 rfl rfl)
 obtain ⟨x0,a0,s0⟩:=zl7 znM h0
 have l0:=zoq (hwt 0 _ _ rfl rfl) a0
 obtain ⟨x1,rfl,rfl,rfl,w1⟩:=open_int Tryz.underlying5 (hval 1 5 v1 rfl rfl) h1
 have s1:=bounds_u8 w1
 obtain ⟨x2,rfl,rfl,rfl,w2⟩:=open_int Tryz.underlying5 (hval 2 5 v2 rfl rfl) h2
 have s2:=bounds_u8 w2
 obtain ⟨x3,rfl,rfl,rfl,w3⟩:=open_int Tryz.underlying5 (hval 3 5 v3 rfl rfl) h3
 have s3:=bounds_u8 w3
 obtain ⟨y4,rfl,rfl,rfl,w4⟩:=Go.ChangeMaps.open_string Tryz.underlying9 (hval 4 9 v4 rfl rfl) h4
 obtain ⟨x4,rfl⟩:∃t:List UInt8,y4=⟨t.toArray⟩:=⟨y4.data.toList,rfl⟩
 have l4:=zpr (hwt 4 _ _ rfl rfl) rfl
 have hrb:reachBytes<9223372036854775807:=by decide
 refine (znJ (args:=#[.agg cs0,.int .u8 x1,.int .u8 x2,.int .u8 x3,.string ⟨x4.toArray⟩]) (zm1 (zlX hL) x0.1 x0.2.1 x0.2.2.1 x0.2.2.2.1 x0.2.2.2.2.1 x0.2.2.2.2.2.1 x0.2.2.2.2.2.2 x1 x2 x3 x4 (by omega) ⟨s1.1,by omega⟩ ⟨s2.1,by omega⟩ ⟨s3.1,by omega⟩ (Nat.lt_of_le_of_lt (by simpa using l4) hrb)) ⟨s0,rfl,rfl,rfl,rfl,trivial⟩).mono fun e W' ⟨he,hb⟩=>?_
 subst he
 exact ⟨_,rfl,zgz rfl Tryz.laidOut (by decide +kernel) 4 (by kernel_rfl) Tryz.underlying4 (fun d hd=>by match d,hd with | [_,_,_,_,_],_=>rfl) hW' hb⟩
theorem zdf:Rows.ExprTextsSaid:=
 OpenClaim.holds_of_wide 3 Tryz.f3 rfl rfl rfl rfl rfl rfl rfl ⟨rfl,rfl,rfl,rfl,rfl⟩ rfl rfl rfl rfl rfl (by kernel_rfl) Tryz.func3 (by kernel_rfl)
  (of_decide_eq_true (by kernel_rfl)) (by unfold Func.isWrapper;rw [if_neg (of_decide_eq_false (by kernel_rfl))];exact ⟨rfl,rfl⟩)
  (fun os started H enc _=>zcT os started H enc)
theorem exprTexts_card:Rows.ExprTextsCardSaid:=
 Claim7.holds_tied_plain_at .later [] [.data, .data, .data, .sentinel, .sentinel, .widerDeep] true (true, "915c4ac7f8067a78fadbb6caf1f5ab3d49fb0f1a26c19a81ffea94befa56b1d1") true
  zdf (fun _ h=>by cases h) (by kernel_rfl) (fun _ h=>by cases h) exprTexts_row_tie rfl ⟨rfl,rfl⟩ (by kernel_rfl) rfl
  (fun f fn hf hfn=>by
   obtain rfl : f = 3 := Option.some.inj ((show Tryz.prog.funcNamed "collet/colletlaw17.ExprTexts" = some 3 by kernel_rfl).symm.trans hf) |>.symm
   obtain rfl:fn=Tryz.f3:=(Option.some.inj (Tryz.func3.symm.trans hfn)).symm
   exact ⟨by kernel_rfl,fun j t ht=>by
    rw [Tryz.params3] at ht
    have hm:t∈[26,5,5,5,9]:=by simpa using Array.mem_of_getElem? ht
    have hall:([26,5,5,5,9].all fun u=>!Tryz.prog.wantsStandIn u)=true:=by kernel_rfl
    exact (show Tryz.prog.wantsStandIn t=false by simpa using List.all_eq_true.1 hall t hm)⟩)
  (by kernel_rfl)
end Go.Proofs.YtdkofaajcpcjkaaGreatDoor
