/-
  Merged: ExMeansP.
-/
import Derived.Test.YtdkofaajcpcjkaaDoorMaO
import Derived.Test.YtdkofaajcpcjkaaDoorMaU
import Derived.Test.YtdkofaajcpcjkaaDoorCards
import Derived.Test.YtdkofaajcpcjkaaDoorTie
import Derived.SevenTiedAt
set_option linter.unusedSimpArgs false
set_option linter.unusedVariables false
set_option maxRecDepth 100000
namespace Go.Proofs.YtdkofaajcpcjkaaDoor
open Go.ChangeShapes Go.WideShapes Go.ChangeAt Go.RowKit Go.Joins Go.Deep
theorem zbU (os:Os) (started:os.Started) (H:Type) (enc:TypeId×Value→H) :
  ReturnsInHanded {} Tryd.checked os 5 .any (fun w args=>(Rows.exprMeansSpec.pre enc Tryd.prog Tryd.f5 [] false w args∧laidMetH Tryd.prog laidL w)∧sizedMet enc Tryd.prog Tryd.f5 (OpenSpec.ofChange Rows.exprMeansSpec) false w args)
   (Rows.exprMeansSpec.post enc Tryd.prog Tryd.f5 false true false false):=by
 refine zgL (C:=Tryd.checked) (X:=fun w _=>laidMetH Tryd.prog laidL w) (fun _ _ _ hh h=>h.of_heap hh) Tryd.own started (by kernel_rfl) Tryd.func5
  (ChangeSpec.witness_shaped (enc:=enc) (C:=Tryd.checked) (os:=os) (X:=fun w _=>laidMetH Tryd.prog laidL w) false (World.doorLaid Tryd.prog 400 os) #[.agg #[.slice none 0 0,.int .i64 0,.int .i64 0,.int .i64 0,.int .i64 0,.int .i64 0,.int .i64 0],.agg #[.slice none 0 0,.int .i64 0,.int .i64 0,.int .i64 0,.int .i64 0,.int .i64 0,.int .i64 0],.slice none 0 0,.int .u8 0] 8 rfl (World.shaped_of_RefB (by kernel_rfl) (by kernel_rfl)) (by kernel_rfl) (by kernel_rfl) (by kernel_rfl) (zjq os _)) ?_
 intro W base args ds gs before hval0 hW hL hwt0
 have hval:∀(j:Nat) t v,Tryd.f5.params[j]?=some t→args[j]?=some v→Value.okWide Tryd.prog W .any base t v:=hval0
 have hwt:∀(j:Nat) t d,Tryd.f5.params.toList[j]?=some t→ds[j]?=some d→∀n∈d.weights Tryd.prog t,n≤reachBytes:=hwt0
 have hW':=hW
 obtain ⟨p,q,hA0,hV,rfl,hfz,hnd⟩:=hW
 have hA:DataW.TrodAll enc Tryd.prog W 0 (fun _=>true) true Tryd.f5.params.toList args.toList ds p:=hA0
 rw [Tryd.params5] at hA hval hwt
 obtain ⟨v0,v1,v2,v3,d0,d1,d2,d3,p0,p1,p2,p3,rfl,rfl,rfl,h0,h1,h2,h3⟩:=trodAll_four hA
 obtain ⟨cs0,rfl,_⟩:=zbh Tryd.underlying26 (hval 0 26 v0 rfl rfl)
 obtain ⟨x0,a0,s0⟩:=zgi zh1 h0
 have l0:=ziv (hwt 0 _ _ rfl rfl) a0
 obtain ⟨cs1,rfl,_⟩:=zbh Tryd.underlying26 (hval 1 26 v1 rfl rfl)
 obtain ⟨x1,a1,s1⟩:=zgi zh1 h1
 have l1:=ziv (hwt 1 _ _ rfl rfl) a1
 obtain ⟨A2,n2,c2,rfl⟩:=okWide_slice Tryd.underlying22 (hval 2 22 v2 rfl rfl)
 obtain ⟨x2,a2,s2⟩:=zjE zh3 rfl h2
 have l2:=zgn (hwt 2 _ _ rfl rfl) a2 Tryd.underlying22 (of_decide_eq_true (by kernel_rfl))
 obtain ⟨x3,rfl,rfl,rfl,w3⟩:=open_int Tryd.underlying5 (hval 3 5 v3 rfl rfl) h3
 have s3:=bounds_u8 w3
 have hrb:reachBytes<9223372036854775807:=by decide
 refine (zkL (args:=#[.agg cs0,.agg cs1,.slice A2 n2 c2,.int .u8 x3]) (zk8 (zjv hL) x0.1 x0.2.1 x0.2.2.1 x0.2.2.2.1 x0.2.2.2.2.1 x0.2.2.2.2.2.1 x0.2.2.2.2.2.2 x1.1 x1.2.1 x1.2.2.1 x1.2.2.2.1 x1.2.2.2.2.1 x1.2.2.2.2.2.1 x1.2.2.2.2.2.2 x2 x3 (by omega) (by omega) (by omega) ⟨s3.1,by omega⟩) ⟨s0,s1,s2,rfl,trivial⟩).mono fun e W' ⟨he,hb⟩=>?_
 subst he
 exact ⟨_,rfl,zff rfl Tryd.laidOut (by decide +kernel) 4 (by kernel_rfl) Tryd.underlying4 (fun d hd=>by match d,hd with | [_,_,_,_],_=>rfl) hW' hb⟩
theorem zca:Rows.ExprMeansSaid:=
 OpenClaim.holds_of_wide 5 Tryd.f5 rfl rfl rfl rfl rfl rfl rfl ⟨rfl,rfl,rfl,rfl,rfl⟩ rfl rfl rfl rfl rfl (by kernel_rfl) Tryd.func5 (by kernel_rfl)
  (of_decide_eq_true (by kernel_rfl)) (by unfold Func.isWrapper;rw [if_neg (of_decide_eq_false (by kernel_rfl))];exact ⟨rfl,rfl⟩)
  (fun os started H enc _=>zbU os started H enc)
theorem exprMeans_card:Rows.ExprMeansCardSaid:=
 Claim7.holds_tied_plain_at .later [] [.data, .data, .data, .sentinel, .sentinel, .widerDeep] true (true, "9c2d4fc3f30ffdcff26bcf724da57c2b036ba0a8542ea02fe6bad0cca4242e6c") true
  zca (fun _ h=>by cases h) (by kernel_rfl) (fun _ h=>by cases h) exprMeans_row_tie rfl ⟨rfl,rfl⟩ (by kernel_rfl) rfl
  (fun f fn hf hfn=>by
   obtain rfl : f = 5 := Option.some.inj ((show Tryd.prog.funcNamed "collet/colletlaw17.ExprMeans" = some 5 by kernel_rfl).symm.trans hf) |>.symm
   obtain rfl:fn=Tryd.f5:=(Option.some.inj (Tryd.func5.symm.trans hfn)).symm
   exact ⟨by kernel_rfl,fun j t ht=>by
    rw [Tryd.params5] at ht
    have hm:t∈[26,26,22,5]:=by simpa using Array.mem_of_getElem? ht
    have hall:([26,26,22,5].all fun u=>!Tryd.prog.wantsStandIn u)=true:=by kernel_rfl
    exact (show Tryd.prog.wantsStandIn t=false by simpa using List.all_eq_true.1 hall t hm)⟩)
  (by kernel_rfl)
end Go.Proofs.YtdkofaajcpcjkaaDoor
