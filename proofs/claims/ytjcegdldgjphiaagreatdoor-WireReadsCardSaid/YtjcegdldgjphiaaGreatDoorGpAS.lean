/-
  Merged: NumOpen, NumOpenN.
-/
import Derived.Test.YtjcegdldgjphiaaGreatDoorGpAR
import Derived.Lib.SmallJoins
import Derived.OpenShut
set_option linter.unusedSimpArgs false
set_option linter.unusedVariables false
namespace Go.Proofs.YtjcegdldgjphiaaGreatDoor
open Go.ChangeShapes Go.WideShapes Go.ChangeAt Go.RowKit Go.Joins Go.Deep
section
variable {H:Type} {enc:TypeId×Value→H} {P:Program} {w:World}
theorem zmE {p:Addr} {v:Value} (h:w.cell? p=some v):p.block<w.heap.size:=by
 rcases Nat.lt_or_ge p.block w.heap.size with h0 | h0
 ·exact h0
 ·have:w.heap[p.block]?=none:=Array.getElem?_eq_none h0
  simp [World.cell?,this] at h
theorem zil {r:Reach} {b0 n:Nat} {t e:TypeId} {v:Value} (ht:P.underlying t=some (.array n e)) (h:Value.okWide P w r b0 t v):∃cs,v=.agg cs∧cs.size=P.cellsOf t:=by
 simp only [Value.okWide,ht] at h
 obtain ⟨cs,h1,h2,_⟩:=h
 exact ⟨cs,h1,h2⟩
end
theorem zlq:Tryz.prog.cellsOf 22=1:=by kernel_rfl
theorem zdx:Tryz.prog.cellsOf 3=1:=by kernel_rfl
section
variable {H:Type} {enc:TypeId×Value→H} {w:World} {base:Nat} {v:Value} {d:DataW H} {p:List MemPlace}
end
end Go.Proofs.YtjcegdldgjphiaaGreatDoor
namespace Go.Proofs.YtjcegdldgjphiaaGreatDoor
open Go.ChangeShapes Go.WideShapes Go.ChangeAt Go.RowKit Go.Joins Go.Deep
theorem zg8 {P:Program} {w:World} {r:Reach} {b0:Nat} {fs:Array Field} {t:TypeId} {v:Value} (ht:P.underlying t=some (.struct fs)) (h:Value.okWide P w r b0 t v):∃cs,v=.agg cs∧cs.size=P.cellsOf t:=by
 simp only [Value.okWide,ht] at h
 obtain ⟨cs,h1,h2,_⟩:=h
 exact ⟨cs,h1,h2⟩
section
variable {H:Type} {enc:TypeId×Value→H} {w:World} {base:Nat} {v:Value} {d:DataW H} {p:List MemPlace}
end
end Go.Proofs.YtjcegdldgjphiaaGreatDoor
