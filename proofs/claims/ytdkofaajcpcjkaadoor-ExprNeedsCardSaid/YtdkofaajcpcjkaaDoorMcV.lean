/-
  Merged: ExNeedsP.
-/
import Derived.Test.YtdkofaajcpcjkaaDoorMcO
import Derived.Test.YtdkofaajcpcjkaaDoorMcU
import Derived.Test.YtdkofaajcpcjkaaDoorCards
import Derived.Test.YtdkofaajcpcjkaaDoorTie
import Derived.SevenTiedAt
set_option linter.unusedSimpArgs false
set_option linter.unusedVariables false
set_option maxRecDepth 100000
namespace Go.Proofs.YtdkofaajcpcjkaaDoor
open Go.ChangeShapes Go.WideShapes Go.ChangeAt Go.RowKit Go.Joins Go.Deep
theorem znS (os:Os) (started:os.Started) (H:Type) (enc:TypeId×Value→H) :
  ReturnsInHanded {} Tryd.checked os 6 .any (fun w args=>(Rows.exprNeedsSpec.pre enc Tryd.prog Tryd.f6 [] false w args∧laidMetH Tryd.prog laidL w)∧sizedMet enc Tryd.prog Tryd.f6 (OpenSpec.ofChange Rows.exprNeedsSpec) false w args)
   (Rows.exprNeedsSpec.post enc Tryd.prog Tryd.f6 false true false false):=by
 refine zgL (C:=Tryd.checked) (X:=fun w _=>laidMetH Tryd.prog laidL w) (fun _ _ _ hh h=>h.of_heap hh) Tryd.own started (by kernel_rfl) Tryd.func6
  (ChangeSpec.witness_shaped (enc:=enc) (C:=Tryd.checked) (os:=os) (X:=fun w _=>laidMetH Tryd.prog laidL w) false (World.doorLaid Tryd.prog 400 os) #[.agg #[.slice none 0 0,.int .i64 0,.int .i64 0,.int .i64 0,.int .i64 0,.int .i64 0,.int .i64 0],.slice none 0 0,.int .u8 0,.int .i64 0,.int .u8 0] 8 rfl (World.shaped_of_RefB (by kernel_rfl) (by kernel_rfl)) (by kernel_rfl) (by kernel_rfl) (by kernel_rfl) (zjq os _)) ?_
 intro W base args ds gs before hval0 hW hL hwt0
 have hval:∀(j:Nat) t v,Tryd.f6.params[j]?=some t→args[j]?=some v→Value.okWide Tryd.prog W .any base t v:=hval0
 have hwt:∀(j:Nat) t d,Tryd.f6.params.toList[j]?=some t→ds[j]?=some d→∀n∈d.weights Tryd.prog t,n≤reachBytes:=hwt0
 have hW':=hW
 obtain ⟨p,q,hA0,hV,rfl,hfz,hnd⟩:=hW
 have hA:DataW.TrodAll enc Tryd.prog W 0 (fun _=>true) true Tryd.f6.params.toList args.toList ds p:=hA0
 rw [Tryd.params6] at hA hval hwt
 obtain ⟨v0,v1,v2,v3,v4,d0,d1,d2,d3,d4,p0,p1,p2,p3,p4,rfl,rfl,rfl,h0,h1,h2,h3,h4⟩:=zn7 hA
 obtain ⟨cs0,rfl,_⟩:=zbh Tryd.underlying26 (hval 0 26 v0 rfl rfl)
 obtain ⟨x0,a0,s0⟩:=zgi zh1 h0
 have l0:=ziv (hwt 0 _ _ rfl rfl) a0
 obtain ⟨A1,n1,c1,rfl⟩:=okWide_slice Tryd.underlying22 (hval 1 22 v1 rfl rfl)
 obtain ⟨x1,a1,s1⟩:=zjE zh3 rfl h1
 have l1:=zgn (hwt 1 _ _ rfl rfl) a1 Tryd.underlying22 (of_decide_eq_true (by kernel_rfl))
 obtain ⟨x2,rfl,rfl,rfl,w2⟩:=open_int Tryd.underlying5 (hval 2 5 v2 rfl rfl) h2
 have s2:=bounds_u8 w2
 obtain ⟨x3,rfl,rfl,rfl,w3⟩:=open_int Tryd.underlying3 (hval 3 3 v3 rfl rfl) h3
 have s3:=bounds_i64 w3
 obtain ⟨x4,rfl,rfl,rfl,w4⟩:=open_int Tryd.underlying5 (hval 4 5 v4 rfl rfl) h4
 have s4:=bounds_u8 w4
 have hrb:reachBytes<9223372036854775807:=by decide
 refine (zkL (args:=#[.agg cs0,.slice A1 n1 c1,.int .u8 x2,.int .i64 x3,.int .u8 x4]) (zoA (zjv hL) x0.1 x0.2.1 x0.2.2.1 x0.2.2.2.1 x0.2.2.2.2.1 x0.2.2.2.2.2.1 x0.2.2.2.2.2.2 x1 x2 x3 x4 (by omega) (by omega) ⟨s2.1,by omega⟩ ⟨s4.1,by omega⟩) ⟨s0,s1,rfl,rfl,rfl,trivial⟩).mono fun e W' ⟨he,hb⟩=>?_
 subst he
 exact ⟨_,rfl,zff rfl Tryd.laidOut (by decide +kernel) 4 (by kernel_rfl) Tryd.underlying4 (fun d hd=>by match d,hd with | [_,_,_,_,_],_=>rfl) hW' hb⟩
theorem znU:Rows.ExprNeedsSaid:=
 OpenClaim.holds_of_wide 6 Tryd.f6 rfl rfl rfl rfl rfl rfl rfl ⟨rfl,rfl,rfl,rfl,rfl⟩ rfl rfl rfl rfl rfl (by kernel_rfl) Tryd.func6 (by kernel_rfl)
  (of_decide_eq_true (by kernel_rfl)) (by unfold Func.isWrapper;rw [if_neg (of_decide_eq_false (by kernel_rfl))];exact ⟨rfl,rfl⟩)
  (fun os started H enc _=>znS os started H enc)
theorem exprNeeds_card:Rows.ExprNeedsCardSaid:=
 Claim7.holds_tied_plain_at .later [] [.data, .data, .data, .sentinel, .sentinel, .widerDeep] true (true, "9c2d4fc3f30ffdcff26bcf724da57c2b036ba0a8542ea02fe6bad0cca4242e6c") true
  znU (fun _ h=>by cases h) (by kernel_rfl) (fun _ h=>by cases h) exprNeeds_row_tie rfl ⟨rfl,rfl⟩ (by kernel_rfl) rfl
  (fun f fn hf hfn=>by
   obtain rfl : f = 6 := Option.some.inj ((show Tryd.prog.funcNamed "collet/colletlaw17.ExprNeeds" = some 6 by kernel_rfl).symm.trans hf) |>.symm
   obtain rfl:fn=Tryd.f6:=(Option.some.inj (Tryd.func6.symm.trans hfn)).symm
   exact ⟨by kernel_rfl,fun j t ht=>by
    rw [Tryd.params6] at ht
    have hm:t∈[26,22,5,3,5]:=by simpa using Array.mem_of_getElem? ht
    have hall:([26,22,5,3,5].all fun u=>!Tryd.prog.wantsStandIn u)=true:=by kernel_rfl
    exact (show Tryd.prog.wantsStandIn t=false by simpa using List.all_eq_true.1 hall t hm)⟩)
  (by kernel_rfl)
end Go.Proofs.YtdkofaajcpcjkaaDoor
