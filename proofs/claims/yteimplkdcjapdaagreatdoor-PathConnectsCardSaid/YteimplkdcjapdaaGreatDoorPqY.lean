/-
  Merged: PlConnectsP.
-/
import Derived.Test.YteimplkdcjapdaaGreatDoorPqW
import Derived.Test.YteimplkdcjapdaaGreatDoorPqX
import Derived.Test.YteimplkdcjapdaaGreatDoorCards
import Derived.Test.YteimplkdcjapdaaGreatDoorTie
import Derived.SevenTiedAt
set_option linter.unusedSimpArgs false
set_option linter.unusedVariables false
set_option maxRecDepth 100000
namespace Go.Proofs.YteimplkdcjapdaaGreatDoor
open Go.ChangeShapes Go.WideShapes Go.ChangeAt Go.RowKit Go.Joins Go.Deep
theorem zsO (os:Os) (started:os.Started) (H:Type) (enc:TypeId×Value→H) :
  ReturnsInHanded {} Tryz.checked os 8 .any (fun w args=>(Rows.pathConnectsSpec.pre enc Tryz.prog Tryz.f8 [] false w args∧laidMetH Tryz.prog laidL w)∧sizedMet enc Tryz.prog Tryz.f8 (OpenSpec.ofChange Rows.pathConnectsSpec) false w args)
   (Rows.pathConnectsSpec.post enc Tryz.prog Tryz.f8 false true false false):=by
 refine zmU (C:=Tryz.checked) (X:=fun w _=>laidMetH Tryz.prog laidL w) (fun _ _ _ hh h=>h.of_heap hh) Tryz.own started (by kernel_rfl) Tryz.func8
  (ChangeSpec.witness_shaped (enc:=enc) (C:=Tryz.checked) (os:=os) (X:=fun w _=>laidMetH Tryz.prog laidL w) false (World.laidAll Tryz.prog os laidL) #[.slice none 0 0,.agg #[.int .i64 0,.int .i64 0,.int .i64 0]] 8 (World.laidAll_os _ _ _) (World.shaped_of_ZipB (by kernel_rfl) (by kernel_rfl)) (by kernel_rfl) (by kernel_rfl) (by kernel_rfl) (znr os _)) ?_
 intro W base args ds gs before hval0 hW hL hwt0 hsh
 have hval:∀(j:Nat) t v,Tryz.f8.params[j]?=some t→args[j]?=some v→Value.okWide Tryz.prog W .any base t v:=hval0
 have hwt:∀(j:Nat) t d,Tryz.f8.params.toList[j]?=some t→ds[j]?=some d→∀n∈d.weights Tryz.prog t,n≤reachBytes:=hwt0
 have hW':=hW
 obtain ⟨p,q,hA0,hV,rfl,hfz,hnd⟩:=hW
 have hA:DataW.TrodAll enc Tryz.prog W 0 (fun _=>true) true Tryz.f8.params.toList args.toList ds p:=hA0
 rw [Tryz.params8] at hA hval hwt
 obtain ⟨v0,v1,d0,d1,p0,p1,rfl,rfl,rfl,h0,h1⟩:=trodAll_two hA
 obtain ⟨A0,n0,c0,rfl⟩:=okWide_slice Tryz.underlying22 (hval 0 22 v0 rfl rfl)
 obtain ⟨x0,a0,s0⟩:=znV znT rfl h0
 obtain ⟨cs1,rfl,_⟩:=zeR Tryz.underlying26 (hval 1 26 v1 rfl rfl)
 obtain ⟨x1,a1,s1⟩:=znU zr7 h1
 refine (zqi (args:=#[.slice A0 n0 c0,.agg cs1]) (zsU (znB hsh hL) x0 x1 ) ⟨s0,s1,trivial⟩).mono fun e W' ⟨he,hb⟩=>?_
 subst he
 exact ⟨_,rfl,zhk rfl Tryz.laidOut (by decide +kernel) 4 (by kernel_rfl) Tryz.underlying4 (fun d hd=>by match d,hd with | [_,_],_=>rfl) hW' hb⟩
theorem zsP:Rows.PathConnectsSaid:=
 OpenClaim.holds_of_wide 8 Tryz.f8 rfl rfl rfl rfl rfl rfl rfl ⟨rfl,rfl,rfl,rfl,rfl⟩ rfl rfl rfl rfl rfl (by kernel_rfl) Tryz.func8 (by kernel_rfl)
  (of_decide_eq_true (by kernel_rfl)) (by unfold Func.isWrapper;rw [if_neg (of_decide_eq_false (by kernel_rfl))];exact ⟨rfl,rfl⟩)
  (fun os started H enc _=>zsO os started H enc)
theorem pathConnects_card:Rows.PathConnectsCardSaid:=
 Claim7.holds_tied_plain_at .later [] [.data, .widerDeep, .pinned] true (true, "bdde3ee7c16ac2e2d347a7fd1139b984e19b6995000633845a4e5032c05821ce") true
  zsP (fun _ h=>by cases h) (by kernel_rfl) (fun _ h=>by cases h) pathConnects_row_tie rfl ⟨rfl,rfl⟩ (by kernel_rfl) rfl
  (fun f fn hf hfn=>by
   obtain rfl : f = 8 := Option.some.inj ((show Tryz.prog.funcNamed "collet/colletlaw19.PathConnects" = some 8 by kernel_rfl).symm.trans hf) |>.symm
   obtain rfl:fn=Tryz.f8:=(Option.some.inj (Tryz.func8.symm.trans hfn)).symm
   exact ⟨by kernel_rfl,fun j t ht=>by
    rw [Tryz.params8] at ht
    have hm:t∈[22,26]:=by simpa using Array.mem_of_getElem? ht
    have hall:([22,26].all fun u=>!Tryz.prog.wantsStandIn u)=true:=by kernel_rfl
    exact (show Tryz.prog.wantsStandIn t=false by simpa using List.all_eq_true.1 hall t hm)⟩)
  (by kernel_rfl)
end Go.Proofs.YteimplkdcjapdaaGreatDoor
