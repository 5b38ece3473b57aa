/-
  Merged: WrWritesP.
-/
import Derived.Test.YtjcegdldgjphiaaGreatDoorGlAZ
import Derived.Test.YtjcegdldgjphiaaGreatDoorGlBA
import Derived.Test.YtjcegdldgjphiaaGreatDoorCards
import Derived.Test.YtjcegdldgjphiaaGreatDoorTie
import Derived.SevenTiedAt
set_option linter.unusedSimpArgs false
set_option linter.unusedVariables false
set_option maxRecDepth 100000
namespace Go.Proofs.YtjcegdldgjphiaaGreatDoor
open Go.ChangeShapes Go.WideShapes Go.ChangeAt Go.RowKit Go.Joins Go.Deep
theorem zp3 (os:Os) (started:os.Started) (H:Type) (enc:TypeId×Value→H) :
  ReturnsInHanded {} Tryz.checked os 3 .any (fun w args=>(Rows.wireWritesSpec.pre enc Tryz.prog Tryz.f3 [] false w args∧laidMetH Tryz.prog laidL w)∧sizedMet enc Tryz.prog Tryz.f3 (OpenSpec.ofChange Rows.wireWritesSpec) false w args)
   (Rows.wireWritesSpec.post enc Tryz.prog Tryz.f3 false true false false):=by
 refine zhf (C:=Tryz.checked) (X:=fun w _=>laidMetH Tryz.prog laidL w) (fun _ _ _ hh h=>h.of_heap hh) Tryz.own started (by kernel_rfl) Tryz.func3
  (ChangeSpec.witness_shaped (enc:=enc) (C:=Tryz.checked) (os:=os) (X:=fun w _=>laidMetH Tryz.prog laidL w) false (World.doorLaid Tryz.prog 400 os) #[.agg #[.int .u8 0,.int .i64 0,.string ⟨#[]⟩,.slice none 0 0,.int .i64 0,.int .i64 0,.int .i64 0,.slice none 0 0,.slice none 0 0],.agg #[.bool false,.slice none 0 0,.bool false,.slice none 0 0]] 8 rfl (World.shaped_of_RefB (by kernel_rfl) (by kernel_rfl)) (by kernel_rfl) (by kernel_rfl) (by kernel_rfl) (zk1 os _)) ?_
 intro W base args ds gs before hval0 hW hL hsh
 have hval:∀(j:Nat) t v,Tryz.f3.params[j]?=some t→args[j]?=some v→Value.okWide Tryz.prog W .any base t v:=hval0
 have hW':=hW
 obtain ⟨p,q,hA0,hV,rfl,hfz,hnd⟩:=hW
 have hA:DataW.TrodAll enc Tryz.prog W 0 (fun _=>true) true Tryz.f3.params.toList args.toList ds p:=hA0
 rw [Tryz.params3] at hA hval
 obtain ⟨v0,v1,d0,d1,p0,p1,rfl,rfl,rfl,h0,h1⟩:=trodAll_two hA
 obtain ⟨cs0,rfl,_⟩:=zpc Tryz.underlying27 (hval 0 27 v0 rfl rfl)
 obtain ⟨x0,a0,s0⟩:=zrj zsO h0
 obtain ⟨x1,s1⟩:=zwu (hval 1 32 v1 rfl rfl) h1
 refine (zm8 (args:=#[.agg cs0,v1]) (zsd (zld hsh) (zlb hL) x0 x1 a0 (zwp s1)) ⟨s0,s1,trivial⟩).mono fun e W' ⟨he,hb⟩=>?_
 subst he
 exact ⟨_,rfl,zgM rfl Tryz.laidOut (by decide +kernel) 4 (by kernel_rfl) Tryz.underlying4 (fun d hd=>by match d,hd with | [_,_],_=>rfl) hW' hb⟩
theorem zqf:Rows.WireWritesSaid:=
 OpenClaim.holds_of_wide 3 Tryz.f3 rfl rfl rfl rfl rfl rfl rfl ⟨rfl,rfl,rfl,rfl,rfl⟩ rfl rfl rfl rfl rfl (by kernel_rfl) Tryz.func3 (by kernel_rfl)
  (of_decide_eq_true (by kernel_rfl)) (by unfold Func.isWrapper;rw [if_neg (of_decide_eq_false (by kernel_rfl))];exact ⟨rfl,rfl⟩)
  (fun os started H enc _=>zp3 os started H enc)
theorem wireWrites_card:Rows.WireWritesCardSaid:=
 Claim7.holds_tied_plain_at .later [] [.data, .data, .data, .sentinel, .sentinel] true (true, "f6d13d20111d2d1024e69384a6477e3c0998475b261181dffc81234b037bb8e9") true
  zqf (fun _ h=>by cases h) (by kernel_rfl) (fun _ h=>by cases h) wireWrites_row_tie rfl ⟨rfl,rfl⟩ (by kernel_rfl) rfl
  (fun f fn hf hfn=>by
   obtain rfl : f = 3 := Option.some.inj ((show Tryz.prog.funcNamed "collet/colletlaw04.WireWrites" = some 3 by kernel_rfl).symm.trans hf) |>.symm
   obtain rfl:fn=Tryz.f3:=(Option.some.inj (Tryz.func3.symm.trans hfn)).symm
   exact ⟨by kernel_rfl,fun j t ht=>by
    rw [Tryz.params3] at ht
    have hm:t∈[27,32]:=by simpa using Array.mem_of_getElem? ht
    have hall:([27,32].all fun u=>!Tryz.prog.wantsStandIn u)=true:=by kernel_rfl
    exact (show Tryz.prog.wantsStandIn t=false by simpa using List.all_eq_true.1 hall t hm)⟩)
  (by kernel_rfl)
end Go.Proofs.YtjcegdldgjphiaaGreatDoor
