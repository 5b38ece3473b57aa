/-
  Merged: PlBesideP.
-/
import Derived.Test.YteimplkdcjapdaaGreatDoorMpV
import Derived.Test.YteimplkdcjapdaaGreatDoorCards
import Derived.Test.YteimplkdcjapdaaGreatDoorTie
import Derived.SevenTiedAt
set_option linter.unusedSimpArgs false
set_option linter.unusedVariables false
set_option maxRecDepth 100000
namespace Go.Proofs.YteimplkdcjapdaaGreatDoor
open Go.ChangeShapes Go.WideShapes Go.ChangeAt Go.RowKit Go.Joins Go.Deep
theorem zcm (os:Os) (started:os.Started) (H:Type) (enc:TypeId×Value→H) :
  ReturnsInHanded {} Tryz.checked os 7 .any (fun w args=>(Rows.pathBesideSpec.pre enc Tryz.prog Tryz.f7 [] false w args∧laidMetH Tryz.prog laidL w)∧sizedMet enc Tryz.prog Tryz.f7 (OpenSpec.ofChange Rows.pathBesideSpec) false w args)
   (Rows.pathBesideSpec.post enc Tryz.prog Tryz.f7 false true false false):=by
 refine zmQ (C:=Tryz.checked) (X:=fun w _=>laidMetH Tryz.prog laidL w) (fun _ _ _ hh h=>h.of_heap hh) Tryz.own started (by kernel_rfl) Tryz.func7
  (ChangeSpec.witness_shaped (enc:=enc) (C:=Tryz.checked) (os:=os) (X:=fun w _=>laidMetH Tryz.prog laidL w) false (World.laidAll Tryz.prog os laidL) #[.agg #[.int .i64 0,.int .i64 0,.int .i64 0],.slice none 0 0,.bool false,.int .u8 0] 8 (World.laidAll_os _ _ _) (World.shaped_of_ZipB (by kernel_rfl) (by kernel_rfl)) (by kernel_rfl) (by kernel_rfl) (by kernel_rfl) (znm os _)) ?_
 intro W base args ds gs before hval0 hW hL hwt0 hsh
 have hval:∀(j:Nat) t v,Tryz.f7.params[j]?=some t→args[j]?=some v→Value.okWide Tryz.prog W .any base t v:=hval0
 have hwt:∀(j:Nat) t d,Tryz.f7.params.toList[j]?=some t→ds[j]?=some d→∀n∈d.weights Tryz.prog t,n≤reachBytes:=hwt0
 have hW':=hW
 obtain ⟨p,q,hA0,hV,rfl,hfz,hnd⟩:=hW
 have hA:DataW.TrodAll enc Tryz.prog W 0 (fun _=>true) true Tryz.f7.params.toList args.toList ds p:=hA0
 rw [Tryz.params7] at hA hval hwt
 obtain ⟨v0,v1,v2,v3,d0,d1,d2,d3,p0,p1,p2,p3,rfl,rfl,rfl,h0,h1,h2,h3⟩:=trodAll_four hA
 obtain ⟨cs0,rfl,_⟩:=zeS Tryz.underlying26 (hval 0 26 v0 rfl rfl)
 obtain ⟨x0,a0,s0⟩:=znT zrj h0
 obtain ⟨A1,n1,c1,rfl⟩:=okWide_slice Tryz.underlying69 (hval 1 69 v1 rfl rfl)
 obtain ⟨x1,a1,s1⟩:=znU znS rfl h1
 obtain ⟨x2,rfl,rfl,rfl⟩:=open_bool Tryz.underlying4 (hval 2 4 v2 rfl rfl) h2
 obtain ⟨x3,rfl,rfl,rfl,w3⟩:=open_int Tryz.underlying5 (hval 3 5 v3 rfl rfl) h3
 have s3:=bounds_u8 w3
 refine (zpL (args:=#[.agg cs0,.slice A1 n1 c1,.bool x2,.int .u8 x3]) (zgB (znA hsh hL) x0 x1 x2 x3 (zrw (fun _ _ h=>⟨h.1.1,h.2⟩) a1) (zrx a1) ⟨s3.1,by omega⟩) ⟨s0,s1,rfl,rfl,trivial⟩).mono fun e W' ⟨he,hb⟩=>?_
 subst he
 exact ⟨_,rfl,zht rfl Tryz.laidOut (by decide +kernel) 4 (by kernel_rfl) Tryz.underlying4 (fun d hd=>by match d,hd with | [_,_,_,_],_=>rfl) hW' hb⟩
theorem zcE:Rows.PathBesideSaid:=
 OpenClaim.holds_of_wide 7 Tryz.f7 rfl rfl rfl rfl rfl rfl rfl ⟨rfl,rfl,rfl,rfl,rfl⟩ rfl rfl rfl rfl rfl (by kernel_rfl) Tryz.func7 (by kernel_rfl)
  (of_decide_eq_true (by kernel_rfl)) (by unfold Func.isWrapper;rw [if_neg (of_decide_eq_false (by kernel_rfl))];exact ⟨rfl,rfl⟩)
  (fun os started H enc _=>zcm os started H enc)
theorem pathBeside_card:Rows.PathBesideCardSaid:=
 Claim7.holds_tied_plain_at .later [] [.data, .widerDeep, .pinned] true (true, "bdde3ee7c16ac2e2d347a7fd1139b984e19b6995000633845a4e5032c05821ce") true
  zcE (fun _ h=>by cases h) (by kernel_rfl) (fun _ h=>by cases h) pathBeside_row_tie rfl ⟨rfl,rfl⟩ (by kernel_rfl) rfl
  (fun f fn hf hfn=>by
   obtain rfl : f = 7 := Option.some.inj ((show Tryz.prog.funcNamed "collet/colletlaw19.PathBeside" = some 7 by kernel_rfl).symm.trans hf) |>.symm
   obtain rfl:fn=Tryz.f7:=(Option.some.inj (Tryz.func7.symm.trans hfn)).symm
   exact ⟨by kernel_rfl,fun j t ht=>by
    rw [Tryz.params7] at ht
    have hm:t∈[26,69,4,5]:=by simpa using Array.mem_of_getElem? ht
    have hall:([26,69,4,5].all fun u=>!Tryz.prog.wantsStandIn u)=true:=by kernel_rfl
    exact (show Tryz.prog.wantsStandIn t=false by simpa using List.all_eq_true.1 hall t hm)⟩)
  (by kernel_rfl)
end Go.Proofs.YteimplkdcjapdaaGreatDoor
