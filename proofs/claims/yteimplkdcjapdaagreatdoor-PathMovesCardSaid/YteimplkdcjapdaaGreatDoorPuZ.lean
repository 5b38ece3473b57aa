/-
  Merged: PlMovesP.
-/
import Derived.Test.YteimplkdcjapdaaGreatDoorPuW
import Derived.Test.YteimplkdcjapdaaGreatDoorPuY
import Derived.Test.YteimplkdcjapdaaGreatDoorCards
import Derived.Test.YteimplkdcjapdaaGreatDoorTie
import Derived.SevenTiedAt
set_option linter.unusedSimpArgs false
set_option linter.unusedVariables false
set_option maxRecDepth 100000
namespace Go.Proofs.YteimplkdcjapdaaGreatDoor
open Go.ChangeShapes Go.WideShapes Go.ChangeAt Go.RowKit Go.Joins Go.Deep
theorem zuC (os:Os) (started:os.Started) (H:Type) (enc:TypeId×Value→H) :
  ReturnsInHanded {} Tryz.checked os 4 .any (fun w args=>(Rows.pathMovesSpec.pre enc Tryz.prog Tryz.f4 [] false w args∧laidMetH Tryz.prog laidL w)∧sizedMet enc Tryz.prog Tryz.f4 (OpenSpec.ofChange Rows.pathMovesSpec) false w args)
   (Rows.pathMovesSpec.post enc Tryz.prog Tryz.f4 false true false false):=by
 refine zmU (C:=Tryz.checked) (X:=fun w _=>laidMetH Tryz.prog laidL w) (fun _ _ _ hh h=>h.of_heap hh) Tryz.own started (by kernel_rfl) Tryz.func4
  (ChangeSpec.witness_shaped (enc:=enc) (C:=Tryz.checked) (os:=os) (X:=fun w _=>laidMetH Tryz.prog laidL w) false (World.laidAll Tryz.prog os laidL) #[.slice none 0 0,.int .u8 0,.slice none 0 0,.int .i64 0] 8 (World.laidAll_os _ _ _) (World.shaped_of_ZipB (by kernel_rfl) (by kernel_rfl)) (by kernel_rfl) (by kernel_rfl) (by kernel_rfl) (znr os _)) ?_
 intro W base args ds gs before hval0 hW hL hwt0 hsh
 have hval:∀(j:Nat) t v,Tryz.f4.params[j]?=some t→args[j]?=some v→Value.okWide Tryz.prog W .any base t v:=hval0
 have hwt:∀(j:Nat) t d,Tryz.f4.params.toList[j]?=some t→ds[j]?=some d→∀n∈d.weights Tryz.prog t,n≤reachBytes:=hwt0
 have hW':=hW
 obtain ⟨p,q,hA0,hV,rfl,hfz,hnd⟩:=hW
 have hA:DataW.TrodAll enc Tryz.prog W 0 (fun _=>true) true Tryz.f4.params.toList args.toList ds p:=hA0
 rw [Tryz.params4] at hA hval hwt
 obtain ⟨v0,v1,v2,v3,d0,d1,d2,d3,p0,p1,p2,p3,rfl,rfl,rfl,h0,h1,h2,h3⟩:=trodAll_four hA
 obtain ⟨A0,n0,c0,rfl⟩:=okWide_slice Tryz.underlying22 (hval 0 22 v0 rfl rfl)
 obtain ⟨x0,a0,s0⟩:=znV znT rfl h0
 obtain ⟨x1,rfl,rfl,rfl,w1⟩:=open_int Tryz.underlying5 (hval 1 5 v1 rfl rfl) h1
 have s1:=bounds_u8 w1
 obtain ⟨A2,n2,c2,rfl⟩:=okWide_slice Tryz.underlying36 (hval 2 36 v2 rfl rfl)
 obtain ⟨x2,a2,s2⟩:=znV zvV rfl h2
 obtain ⟨x3,rfl,rfl,rfl,w3⟩:=open_int Tryz.underlying3 (hval 3 3 v3 rfl rfl) h3
 have s3:=bounds_i64 w3
 refine (zqi (args:=#[.slice A0 n0 c0,.int .u8 x1,.slice A2 n2 c2,.int .i64 x3]) (zvd (znB hsh hL) x0 x1 x2 x3 ⟨s1.1,by omega⟩ (by omega)) ⟨s0,rfl,s2,rfl,trivial⟩).mono fun e W' ⟨he,hb⟩=>?_
 subst he
 exact ⟨_,rfl,zhk rfl Tryz.laidOut (by decide +kernel) 4 (by kernel_rfl) Tryz.underlying4 (fun d hd=>by match d,hd with | [_,_,_,_],_=>rfl) hW' hb⟩
theorem zuF:Rows.PathMovesSaid:=
 OpenClaim.holds_of_wide 4 Tryz.f4 rfl rfl rfl rfl rfl rfl rfl ⟨rfl,rfl,rfl,rfl,rfl⟩ rfl rfl rfl rfl rfl (by kernel_rfl) Tryz.func4 (by kernel_rfl)
  (of_decide_eq_true (by kernel_rfl)) (by unfold Func.isWrapper;rw [if_neg (of_decide_eq_false (by kernel_rfl))];exact ⟨rfl,rfl⟩)
  (fun os started H enc _=>zuC os started H enc)
theorem pathMoves_card:Rows.PathMovesCardSaid:=
 Claim7.holds_tied_plain_at .later [] [.data, .widerDeep, .pinned] true (true, "bdde3ee7c16ac2e2d347a7fd1139b984e19b6995000633845a4e5032c05821ce") true
  zuF (fun _ h=>by cases h) (by kernel_rfl) (fun _ h=>by cases h) pathMoves_row_tie rfl ⟨rfl,rfl⟩ (by kernel_rfl) rfl
  (fun f fn hf hfn=>by
   obtain rfl : f = 4 := Option.some.inj ((show Tryz.prog.funcNamed "collet/colletlaw19.PathMoves" = some 4 by kernel_rfl).symm.trans hf) |>.symm
   obtain rfl:fn=Tryz.f4:=(Option.some.inj (Tryz.func4.symm.trans hfn)).symm
   exact ⟨by kernel_rfl,fun j t ht=>by
    rw [Tryz.params4] at ht
    have hm:t∈[22,5,36,3]:=by simpa using Array.mem_of_getElem? ht
    have hall:([22,5,36,3].all fun u=>!Tryz.prog.wantsStandIn u)=true:=by kernel_rfl
    exact (show Tryz.prog.wantsStandIn t=false by simpa using List.all_eq_true.1 hall t hm)⟩)
  (by kernel_rfl)
end Go.Proofs.YteimplkdcjapdaaGreatDoor
