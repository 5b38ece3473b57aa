/-
  Merged: SymY.
-/
import Derived.Test.YtdkofaajcpcjkaaDoorMfC
import Derived.Lib.SlBytesRow
import Derived.Laws.Pointers
set_option linter.unusedSimpArgs false
set_option linter.unusedVariables false
namespace Go.Proofs.YtdkofaajcpcjkaaDoor
open Go.RowKit
section
variable {K:Kit} {P:Program} {F:Fact}
def pG {α:Type} (c:α→List Pred) (l:List α):LPred:=fun vs W D=>okl (l.flatMap c) vs W D
theorem zau {α:Type} {c:α→List Pred} (hc:∀x,FineAll K (c x)) (l:List α):FineAll K (l.flatMap c):=FineAll.of fun p hp=>by
 obtain ⟨x,_,h⟩:=List.mem_flatMap.1 hp
 exact (hc x).mem p h
theorem qG {α:Type} {c:α→List Pred} (hc:∀x,FineAll K (c x)) {l:List α}:FineL K (pG c l):=⟨fun hS hO hD h=>zcn hS hO hD (zau hc l) h,fun h=>zjL (zau hc l) h⟩
theorem qH {α:Type} {c:α→List Pred} {z:Nat} (hz:∀x,(c x).length=z) (l:List α):(l.flatMap c).length=l.length*z:=by
 induction l with
 | nil=>simp
 | cons y r ih=>rw [List.flatMap_cons,List.length_append,hz,ih,List.length_cons,Nat.add_mul];omega
theorem zni {α:Type} {c:α→List Pred} {β:Loc} {W:World} {b z n:Nat} {T:TypeId} (h:β b=none) (hn:F.g n=pG c ([]:List α)):GL K F β b T z n W:=by
 have e1:gv β b=.slice none 0 0:=by unfold gv;rw [h]
 have e2:glen β b=0:=by unfold glen;rw [h]
 refine ⟨[],?_,by rw [hn];trivial,fun q hq=>by rw [h] at hq;cases hq⟩
 rw [e1,e2]
 exact World.ownsRow_nil W _ T z
theorem z_gq {K:Kit} {F F':Fact} {b:Nat} {T:TypeId} {z n m:Nat} {p:LPred} (h:F.g n=p) (h':F'.g m=p):∀(β:Loc) (a:Act) (W:World),(Atom.gl b T z n).ok K F β a W→(Atom.gl b T z m).ok K F' β a W:=z_gl fun vs W D k=>by rw [h'];rw [h] at k;exact k
end
section
variable {K:Kit} {P:Program}
variable {F:Fact} {f:FuncId} {az:List PSh} {T:TypeId} {ps:List Pred} {as':List Sh} {ls:List Lf}
end
end Go.Proofs.YtdkofaajcpcjkaaDoor
