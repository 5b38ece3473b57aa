/-
  Merged: ExPutsP.
-/
import Derived.Test.YtdkofaajcpcjkaaDoorMbO
import Derived.Test.YtdkofaajcpcjkaaDoorMbT
import Derived.Test.YtdkofaajcpcjkaaDoorCards
import Derived.Test.YtdkofaajcpcjkaaDoorTie
import Derived.SevenTiedAt
set_option linter.unusedSimpArgs false
set_option linter.unusedVariables false
set_option maxRecDepth 100000
namespace Go.Proofs.YtdkofaajcpcjkaaDoor
open Go.ChangeShapes Go.WideShapes Go.ChangeAt Go.RowKit Go.Joins Go.Deep
theorem zmt (os:Os) (started:os.Started) (H:Type) (enc:TypeId×Value→H) :
  ReturnsInHanded {} Tryd.checked os 7 .any (fun w args=>(Rows.exprPutsSpec.pre enc Tryd.prog Tryd.f7 [] false w args∧laidMetH Tryd.prog laidL w)∧sizedMet enc Tryd.prog Tryd.f7 (OpenSpec.ofChange Rows.exprPutsSpec) false w args)
   (Rows.exprPutsSpec.post enc Tryd.prog Tryd.f7 false true false false):=by
 refine zgL (C:=Tryd.checked) (X:=fun w _=>laidMetH Tryd.prog laidL w) (fun _ _ _ hh h=>h.of_heap hh) Tryd.own started (by kernel_rfl) Tryd.func7
  (ChangeSpec.witness_shaped (enc:=enc) (C:=Tryd.checked) (os:=os) (X:=fun w _=>laidMetH Tryd.prog laidL w) false (World.doorLaid Tryd.prog 400 os) #[.agg #[.slice none 0 0,.int .i64 0,.int .i64 0,.int .i64 0,.int .i64 0,.int .i64 0,.int .i64 0],.agg #[.int .i64 0,.int .i64 0,.int .i64 0]] 8 rfl (World.shaped_of_RefB (by kernel_rfl) (by kernel_rfl)) (by kernel_rfl) (by kernel_rfl) (by kernel_rfl) (zjq os _)) ?_
 intro W base args ds gs before hval0 hW hL hwt0
 have hval:∀(j:Nat) t v,Tryd.f7.params[j]?=some t→args[j]?=some v→Value.okWide Tryd.prog W .any base t v:=hval0
 have hwt:∀(j:Nat) t d,Tryd.f7.params.toList[j]?=some t→ds[j]?=some d→∀n∈d.weights Tryd.prog t,n≤reachBytes:=hwt0
 have hW':=hW
 obtain ⟨p,q,hA0,hV,rfl,hfz,hnd⟩:=hW
 have hA:DataW.TrodAll enc Tryd.prog W 0 (fun _=>true) true Tryd.f7.params.toList args.toList ds p:=hA0
 rw [Tryd.params7] at hA hval hwt
 obtain ⟨v0,v1,d0,d1,p0,p1,rfl,rfl,rfl,h0,h1⟩:=trodAll_two hA
 obtain ⟨cs0,rfl,_⟩:=zbh Tryd.underlying26 (hval 0 26 v0 rfl rfl)
 obtain ⟨x0,a0,s0⟩:=zgi zh1 h0
 have l0:=ziv (hwt 0 _ _ rfl rfl) a0
 obtain ⟨cs1,rfl,_⟩:=zmz Tryd.underlying23 (hval 1 23 v1 rfl rfl)
 obtain ⟨x1,a1,s1⟩:=zgi zlx h1
 have hrb:reachBytes<9223372036854775807:=by decide
 refine (zkL (args:=#[.agg cs0,.agg cs1]) (znu (zjv hL) x0.1 x0.2.1 x0.2.2.1 x0.2.2.2.1 x0.2.2.2.2.1 x0.2.2.2.2.2.1 x0.2.2.2.2.2.2 x1.1 x1.2.1 x1.2.2 (by omega)) ⟨s0,s1,trivial⟩).mono fun e W' ⟨he,hb⟩=>?_
 subst he
 exact ⟨_,rfl,zff rfl Tryd.laidOut (by decide +kernel) 4 (by kernel_rfl) Tryd.underlying4 (fun d hd=>by match d,hd with | [_,_],_=>rfl) hW' hb⟩
theorem zmv:Rows.ExprPutsSaid:=
 OpenClaim.holds_of_wide 7 Tryd.f7 rfl rfl rfl rfl rfl rfl rfl ⟨rfl,rfl,rfl,rfl,rfl⟩ rfl rfl rfl rfl rfl (by kernel_rfl) Tryd.func7 (by kernel_rfl)
  (of_decide_eq_true (by kernel_rfl)) (by unfold Func.isWrapper;rw [if_neg (of_decide_eq_false (by kernel_rfl))];exact ⟨rfl,rfl⟩)
  (fun os started H enc _=>zmt os started H enc)
theorem exprPuts_card:Rows.ExprPutsCardSaid:=
 Claim7.holds_tied_plain_at .later [] [.data, .data, .data, .sentinel, .sentinel, .widerDeep] true (true, "9c2d4fc3f30ffdcff26bcf724da57c2b036ba0a8542ea02fe6bad0cca4242e6c") true
  zmv (fun _ h=>by cases h) (by kernel_rfl) (fun _ h=>by cases h) exprPuts_row_tie rfl ⟨rfl,rfl⟩ (by kernel_rfl) rfl
  (fun f fn hf hfn=>by
   obtain rfl : f = 7 := Option.some.inj ((show Tryd.prog.funcNamed "collet/colletlaw17.ExprPuts" = some 7 by kernel_rfl).symm.trans hf) |>.symm
   obtain rfl:fn=Tryd.f7:=(Option.some.inj (Tryd.func7.symm.trans hfn)).symm
   exact ⟨by kernel_rfl,fun j t ht=>by
    rw [Tryd.params7] at ht
    have hm:t∈[26,23]:=by simpa using Array.mem_of_getElem? ht
    have hall:([26,23].all fun u=>!Tryd.prog.wantsStandIn u)=true:=by kernel_rfl
    exact (show Tryd.prog.wantsStandIn t=false by simpa using List.all_eq_true.1 hall t hm)⟩)
  (by kernel_rfl)
end Go.Proofs.YtdkofaajcpcjkaaDoor
