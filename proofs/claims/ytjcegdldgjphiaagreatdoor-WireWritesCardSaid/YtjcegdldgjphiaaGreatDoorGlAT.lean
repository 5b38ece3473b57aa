/-
  Merged: NumOpen, NumOpenN.
-/
import Derived.Test.YtjcegdldgjphiaaGreatDoorGlAS
import Derived.Lib.SmallJoins
import Derived.OpenShut
set_option linter.unusedSimpArgs false
set_option linter.unusedVariables false
set_option maxRecDepth 100000
namespace Go.Proofs.YtjcegdldgjphiaaGreatDoor
open Go.ChangeShapes Go.WideShapes Go.ChangeAt Go.RowKit Go.Joins Go.Deep
section
variable {H:Type} {enc:TypeId×Value→H} {P:Program} {w:World}
theorem zif {p:Addr} {v:Value} (h:w.cell? p=some v):p.block<w.heap.size:=by
 rcases Nat.lt_or_ge p.block w.heap.size with h0 | h0
 ·exact h0
 ·have:w.heap[p.block]?=none:=Array.getElem?_eq_none h0
  simp [World.cell?,this] at h
theorem zrl {t e:TypeId} {k:IntKind} {fuel:Nat} {v:Value} {y:DataW H×List MemPlace} (ht:P.underlying t=some (.slice e)) (he:P.underlying e=some (.int k)) (hc:P.cellsOf e=1)
  (h:DataW.trod enc P w 0 (fun _=>true) true fuel t [v]=some y) :
  ∃(A:Option Addr) (n c:Nat) (zs:List Int),v=.slice A n c∧n≤c∧c≤maxLen∧Reads w w.heap.size 1 A n (zs.map (Value.int k))∧∀z∈zs,(Lit.int k z).wf=true:=by
 rcases open_ints ht he hc h with ⟨hcs,_⟩ | ⟨a,len,cap,zs,hcs,_,hl,hm,hlen,_,hcell,hwf⟩
 ·simp only [List.cons.injEq,and_true] at hcs
  exact ⟨none,0,0,[],hcs,Nat.le_refl _,by decide,Reads.none_,by simp⟩
 ·simp only [List.cons.injEq,and_true] at hcs
  simp only [if_true] at hlen
  refine ⟨some a,len,cap,zs.take len,hcs,hl,hm,⟨by simp;omega,fun h0=>?_⟩,fun z hz=>hwf z (List.mem_of_mem_take hz)⟩
  have h00:=hcell 0 (by omega)
  have hb:=zif h00
  rw [qD] at hb
  refine ⟨a,rfl,hb,fun j u hu=>?_⟩
  rw [List.map_take,List.getElem?_take] at hu
  split at hu
  ·rename_i hj
   have hz:j<zs.length:=by omega
   rw [hcell j hz]
   rw [List.getElem?_map,List.getElem?_eq_getElem hz] at hu
   rw [← hu,List.getD_eq_getElem?_getD,List.getElem?_eq_getElem hz]
   rfl
  ·cases hu
end
theorem zsz:Tryz.prog.cellsOf 22=1:=by kernel_rfl
theorem zpY:Tryz.prog.cellsOf 3=1:=by kernel_rfl
section
variable {H:Type} {enc:TypeId×Value→H} {w:World} {base:Nat} {v:Value} {d:DataW H} {p:List MemPlace}
end
end Go.Proofs.YtjcegdldgjphiaaGreatDoor
namespace Go.Proofs.YtjcegdldgjphiaaGreatDoor
open Go.ChangeShapes Go.WideShapes Go.ChangeAt Go.RowKit Go.Joins Go.Deep
theorem zql:Tryz.prog.cellsOf 30=2:=by kernel_rfl
theorem ztQ:Tryz.prog.cellsOf 123=1:=by kernel_rfl
theorem zvv:Tryz.prog.cellsOf 28=1:=by kernel_rfl
theorem zvt:Tryz.prog.cellsOf 4=1:=by kernel_rfl
theorem zpc {P:Program} {w:World} {r:Reach} {b0:Nat} {fs:Array Field} {t:TypeId} {v:Value} (ht:P.underlying t=some (.struct fs)) (h:Value.okWide P w r b0 t v):∃cs,v=.agg cs∧cs.size=P.cellsOf t:=by
 simp only [Value.okWide,ht] at h
 obtain ⟨cs,h1,h2,_⟩:=h
 exact ⟨cs,h1,h2⟩
section
variable {H:Type} {enc:TypeId×Value→H} {w:World} {base:Nat} {v:Value} {d:DataW H} {p:List MemPlace}
theorem zsp {A:Option Addr} {n c:Nat} {zs:List Int} (hl:n≤c) (hm:c≤maxLen) (h:Reads w w.heap.size 1 A n (zs.map (Value.int .u32))) (hw:∀z∈zs,(Lit.int .u32 z).wf=true) :
  Sl w w.heap.size A n c (zs.map Int.toNat):=by
 have e:u32s (zs.map Int.toNat)=zs.map (Value.int .u32):=by
  unfold u32s
  rw [List.map_map]
  apply List.map_congr_left
  intro z hz
  have:=bounds_u32 (hw z hz)
  show Value.int .u32 ((z.toNat:Nat):Int)=_
  rw [Int.toNat_of_nonneg this.1]
 refine ⟨⟨by rw [e];exact h,fun x hx=>?_⟩,hl,hm⟩
 obtain ⟨z,hz,rfl⟩:=List.mem_map.1 hx
 have:=bounds_u32 (hw z hz)
 omega
theorem zqs {n:Nat} {cs:List Value} {y:Option (DataW H×List MemPlace)} (h:DataW.trod enc Tryz.prog w 0 (fun _=>true) true n 30 cs=y) (hy:y.isSome=true) :
  ∃(neg:Bool) (A:Option Addr) (n c:Nat) (l:List Nat),cs=[.bool neg,.slice A n c]∧Sl w w.heap.size A n c l:=by
 obtain ⟨y',rfl⟩:=Option.isSome_iff_exists.1 hy
 obtain ⟨y0,y1,m,_,hl,h0,h1⟩:=trod_struct2 Tryz.underlying30 h
 rw [zql] at hl
 match cs,hl with
 | [u0,u1],_ =>
  have h0':DataW.trod enc Tryz.prog w 0 (fun _=>true) true m 4 [u0]=some y0:=by simpa [zvt] using h0
  have h1':DataW.trod enc Tryz.prog w 0 (fun _=>true) true m 28 [u1]=some y1:=by simpa [zvv] using h1
  obtain ⟨b,hb,_⟩:=DataW.trod_bool Tryz.underlying4 h0'
  obtain ⟨A,n,c,zs,rfl,hl,hm,hr,hw⟩:=zrl Tryz.underlying28 Tryz.underlying123 ztQ h1'
  simp at hb
  subst hb
  exact ⟨b,A,n,c,_,rfl,zsp hl hm hr hw⟩
end
end Go.Proofs.YtjcegdldgjphiaaGreatDoor
