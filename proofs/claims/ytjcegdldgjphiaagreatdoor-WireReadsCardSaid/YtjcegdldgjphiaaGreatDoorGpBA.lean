/-
  Merged: WrReadsP.
-/
import Derived.Test.YtjcegdldgjphiaaGreatDoorGpAY
import Derived.Test.YtjcegdldgjphiaaGreatDoorGpAZ
import Derived.Test.YtjcegdldgjphiaaGreatDoorCards
import Derived.Test.YtjcegdldgjphiaaGreatDoorTie
import Derived.SevenTiedAt
set_option linter.unusedSimpArgs false
set_option linter.unusedVariables false
set_option maxRecDepth 100000
namespace Go.Proofs.YtjcegdldgjphiaaGreatDoor
open Go.ChangeShapes Go.WideShapes Go.ChangeAt Go.RowKit Go.Joins Go.Deep
theorem zek (os:Os) (started:os.Started) (H:Type) (enc:TypeId×Value→H) :
  ReturnsInHanded {} Tryz.checked os 4 .any (fun w args=>(Rows.wireReadsSpec.pre enc Tryz.prog Tryz.f4 [] false w args∧laidMetH Tryz.prog laidL w)∧sizedMet enc Tryz.prog Tryz.f4 (OpenSpec.ofChange Rows.wireReadsSpec) false w args)
   (Rows.wireReadsSpec.post enc Tryz.prog Tryz.f4 false true false false):=by
 refine zlk (C:=Tryz.checked) (X:=fun w _=>laidMetH Tryz.prog laidL w) (fun _ _ _ hh h=>h.of_heap hh) Tryz.own started (by kernel_rfl) Tryz.func4
  (ChangeSpec.witness_shaped (enc:=enc) (C:=Tryz.checked) (os:=os) (X:=fun w _=>laidMetH Tryz.prog laidL w) false (World.doorLaid Tryz.prog 400 os) #[.string ⟨#[]⟩,.agg #[.int .u8 0,.int .i64 0,.string ⟨#[]⟩,.slice none 0 0,.int .i64 0,.int .i64 0,.int .i64 0,.slice none 0 0,.slice none 0 0],.agg #[.int .u16 0,.int .u16 0],.slice none 0 0] 8 rfl (World.shaped_of_RefB (by kernel_rfl) (by kernel_rfl)) (by kernel_rfl) (by kernel_rfl) (by kernel_rfl) (zqT os _)) ?_
 intro W base args ds gs before hval0 hW hL hsh
 have hval:∀(j:Nat) t v,Tryz.f4.params[j]?=some t→args[j]?=some v→Value.okWide Tryz.prog W .any base t v:=hval0
 have hW':=hW
 obtain ⟨p,q,hA0,hV,rfl,hfz,hnd⟩:=hW
 have hA:DataW.TrodAll enc Tryz.prog W 0 (fun _=>true) true Tryz.f4.params.toList args.toList ds p:=hA0
 rw [Tryz.params4] at hA hval
 obtain ⟨v0,v1,v2,v3,d0,d1,d2,d3,p0,p1,p2,p3,rfl,rfl,rfl,h0,h1,h2,h3⟩:=trodAll_four hA
 obtain ⟨y0,rfl,rfl,rfl,w0⟩:=Go.ChangeMaps.open_string Tryz.underlying9 (hval 0 9 v0 rfl rfl) h0
 obtain ⟨x0,rfl⟩:∃t:List UInt8,y0=⟨t.toArray⟩:=⟨y0.data.toList,rfl⟩
 have s0:x0.length≤9223372036854775807:=w0
 obtain ⟨cs1,rfl,_⟩:=zg8 Tryz.underlying27 (hval 1 27 v1 rfl rfl)
 obtain ⟨x1,a1,s1⟩:=zlV zvA h1
 obtain ⟨cs2,rfl,_⟩:=zil Tryz.underlying42 (hval 2 42 v2 rfl rfl)
 obtain ⟨x2,a2,s2⟩:=zlV op_q2 h2
 obtain ⟨A3,n3,c3,rfl⟩:=okWide_slice Tryz.underlying43 (hval 3 43 v3 rfl rfl)
 obtain ⟨x3,a3,s3⟩:=zrm zrl rfl h3
 refine (ztH (args:=#[.string ⟨x0.toArray⟩,.agg cs1,.agg cs2,.slice A3 n3 c3]) (zjO (zrd hsh) (zq8 hL) x0 x1 x2 x3 a1 a2 (by have:=a3.2;unfold maxLen at this;omega)) ⟨rfl,s1,s2,s3,trivial⟩).mono fun e W' ⟨he,hb⟩=>?_
 subst he
 exact ⟨_,rfl,zkz rfl Tryz.laidOut (by decide +kernel) 4 (by kernel_rfl) Tryz.underlying4 (fun d hd=>by match d,hd with | [_,_,_,_],_=>rfl) hW' hb⟩
theorem zfo:Rows.WireReadsSaid:=
 OpenClaim.holds_of_wide 4 Tryz.f4 rfl rfl rfl rfl rfl rfl rfl ⟨rfl,rfl,rfl,rfl,rfl⟩ rfl rfl rfl rfl rfl (by kernel_rfl) Tryz.func4 (by kernel_rfl)
  (of_decide_eq_true (by kernel_rfl)) (by unfold Func.isWrapper;rw [if_neg (of_decide_eq_false (by kernel_rfl))];exact ⟨rfl,rfl⟩)
  (fun os started H enc _=>zek os started H enc)
theorem wireReads_card:Rows.WireReadsCardSaid:=
 Claim7.holds_tied_plain_at .later [] [.data, .data, .data, .sentinel, .sentinel] true (true, "f6d13d20111d2d1024e69384a6477e3c0998475b261181dffc81234b037bb8e9") true
  zfo (fun _ h=>by cases h) (by kernel_rfl) (fun _ h=>by cases h) wireReads_row_tie rfl ⟨rfl,rfl⟩ (by kernel_rfl) rfl
  (fun f fn hf hfn=>by
   obtain rfl : f = 4 := Option.some.inj ((show Tryz.prog.funcNamed "collet/colletlaw04.WireReads" = some 4 by kernel_rfl).symm.trans hf) |>.symm
   obtain rfl:fn=Tryz.f4:=(Option.some.inj (Tryz.func4.symm.trans hfn)).symm
   exact ⟨by kernel_rfl,fun j t ht=>by
    rw [Tryz.params4] at ht
    have hm:t∈[9,27,42,43]:=by simpa using Array.mem_of_getElem? ht
    have hall:([9,27,42,43].all fun u=>!Tryz.prog.wantsStandIn u)=true:=by kernel_rfl
    exact (show Tryz.prog.wantsStandIn t=false by simpa using List.all_eq_true.1 hall t hm)⟩)
  (by kernel_rfl)
end Go.Proofs.YtjcegdldgjphiaaGreatDoor
