/-
  Merged: ExBackP.
-/
import Derived.Test.YtdkofaajcpcjkaaDoorMfO
import Derived.Test.YtdkofaajcpcjkaaDoorMfV
import Derived.Test.YtdkofaajcpcjkaaDoorCards
import Derived.Test.YtdkofaajcpcjkaaDoorTie
import Derived.SevenTiedAt
set_option linter.unusedSimpArgs false
set_option linter.unusedVariables false
set_option maxRecDepth 100000
namespace Go.Proofs.YtdkofaajcpcjkaaDoor
open Go.ChangeShapes Go.WideShapes Go.ChangeAt Go.RowKit Go.Joins Go.Deep
theorem zpm (os:Os) (started:os.Started) (H:Type) (enc:TypeId×Value→H) :
  ReturnsInHanded {} Tryd.checked os 4 .any (fun w args=>(Rows.exprBackSpec.pre enc Tryd.prog Tryd.f4 [] false w args∧laidMetH Tryd.prog laidL w)∧sizedMet enc Tryd.prog Tryd.f4 (OpenSpec.ofChange Rows.exprBackSpec) false w args)
   (Rows.exprBackSpec.post enc Tryd.prog Tryd.f4 false true false false):=by
 refine zhQ (C:=Tryd.checked) (X:=fun w _=>laidMetH Tryd.prog laidL w) (fun _ _ _ hh h=>h.of_heap hh) Tryd.own started (by kernel_rfl) Tryd.func4
  (ChangeSpec.witness_shaped (enc:=enc) (C:=Tryd.checked) (os:=os) (X:=fun w _=>laidMetH Tryd.prog laidL w) false (World.doorLaid Tryd.prog 400 os) #[.agg #[.slice none 0 0,.int .i64 0,.int .i64 0,.int .i64 0,.int .i64 0,.int .i64 0,.int .i64 0],.agg #[.slice none 0 0,.int .i64 0,.int .i64 0,.int .i64 0,.int .i64 0,.int .i64 0,.int .i64 0],.string ⟨#[]⟩] 8 rfl (World.shaped_of_RefB (by kernel_rfl) (by kernel_rfl)) (by kernel_rfl) (by kernel_rfl) (by kernel_rfl) (zlx os _)) ?_
 intro W base args ds gs before hval0 hW hL hwt0
 have hval:∀(j:Nat) t v,Tryd.f4.params[j]?=some t→args[j]?=some v→Value.okWide Tryd.prog W .any base t v:=hval0
 have hwt:∀(j:Nat) t d,Tryd.f4.params.toList[j]?=some t→ds[j]?=some d→∀n∈d.weights Tryd.prog t,n≤reachBytes:=hwt0
 have hW':=hW
 obtain ⟨p,q,hA0,hV,rfl,hfz,hnd⟩:=hW
 have hA:DataW.TrodAll enc Tryd.prog W 0 (fun _=>true) true Tryd.f4.params.toList args.toList ds p:=hA0
 rw [Tryd.params4] at hA hval hwt
 obtain ⟨v0,v1,v2,d0,d1,d2,p0,p1,p2,rfl,rfl,rfl,h0,h1,h2⟩:=trodAll_three hA
 obtain ⟨cs0,rfl,_⟩:=zeh Tryd.underlying26 (hval 0 26 v0 rfl rfl)
 obtain ⟨x0,a0,s0⟩:=zlN znp h0
 have l0:=znH (hwt 0 _ _ rfl rfl) a0
 obtain ⟨cs1,rfl,_⟩:=zeh Tryd.underlying26 (hval 1 26 v1 rfl rfl)
 obtain ⟨x1,a1,s1⟩:=zlN znp h1
 have l1:=znH (hwt 1 _ _ rfl rfl) a1
 obtain ⟨y2,rfl,rfl,rfl,w2⟩:=Go.ChangeMaps.open_string Tryd.underlying9 (hval 2 9 v2 rfl rfl) h2
 obtain ⟨x2,rfl⟩:∃t:List UInt8,y2=⟨t.toArray⟩:=⟨y2.data.toList,rfl⟩
 have l2:=zp1 (hwt 2 _ _ rfl rfl) rfl
 have hrb:reachBytes<9223372036854775807:=by decide
 refine (znm (args:=#[.agg cs0,.agg cs1,.string ⟨x2.toArray⟩]) (zpV (zlC hL) x0.1 x0.2.1 x0.2.2.1 x0.2.2.2.1 x0.2.2.2.2.1 x0.2.2.2.2.2.1 x0.2.2.2.2.2.2 x1.1 x1.2.1 x1.2.2.1 x1.2.2.2.1 x1.2.2.2.2.1 x1.2.2.2.2.2.1 x1.2.2.2.2.2.2 x2 (by omega) (by omega) (Nat.lt_of_le_of_lt (by simpa using l2) hrb)) ⟨s0,s1,rfl,trivial⟩).mono fun e W' ⟨he,hb⟩=>?_
 subst he
 exact ⟨_,rfl,zgd rfl Tryd.laidOut (by decide +kernel) 4 (by kernel_rfl) Tryd.underlying4 (fun d hd=>by match d,hd with | [_,_,_],_=>rfl) hW' hb⟩
theorem zpo:Rows.ExprBackSaid:=
 OpenClaim.holds_of_wide 4 Tryd.f4 rfl rfl rfl rfl rfl rfl rfl ⟨rfl,rfl,rfl,rfl,rfl⟩ rfl rfl rfl rfl rfl (by kernel_rfl) Tryd.func4 (by kernel_rfl)
  (of_decide_eq_true (by kernel_rfl)) (by unfold Func.isWrapper;rw [if_neg (of_decide_eq_false (by kernel_rfl))];exact ⟨rfl,rfl⟩)
  (fun os started H enc _=>zpm os started H enc)
theorem exprBack_card:Rows.ExprBackCardSaid:=
 Claim7.holds_tied_plain_at .later [] [.data, .data, .data, .sentinel, .sentinel, .widerDeep] true (true, "9c2d4fc3f30ffdcff26bcf724da57c2b036ba0a8542ea02fe6bad0cca4242e6c") true
  zpo (fun _ h=>by cases h) (by kernel_rfl) (fun _ h=>by cases h) exprBack_row_tie rfl ⟨rfl,rfl⟩ (by kernel_rfl) rfl
  (fun f fn hf hfn=>by
   obtain rfl : f = 4 := Option.some.inj ((show Tryd.prog.funcNamed "collet/colletlaw17.ExprBack" = some 4 by kernel_rfl).symm.trans hf) |>.symm
   obtain rfl:fn=Tryd.f4:=(Option.some.inj (Tryd.func4.symm.trans hfn)).symm
   exact ⟨by kernel_rfl,fun j t ht=>by
    rw [Tryd.params4] at ht
    have hm:t∈[26,26,9]:=by simpa using Array.mem_of_getElem? ht
    have hall:([26,26,9].all fun u=>!Tryd.prog.wantsStandIn u)=true:=by kernel_rfl
    exact (show Tryd.prog.wantsStandIn t=false by simpa using List.all_eq_true.1 hall t hm)⟩)
  (by kernel_rfl)
end Go.Proofs.YtdkofaajcpcjkaaDoor
