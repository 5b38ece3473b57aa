/-
  Merged: SymBl.
-/
import Derived.Test.YtdkofaajcpcjkaaGreatDoorMTE
import Derived.Lib.AppendStr
set_option linter.unusedSimpArgs false
set_option linter.unusedVariables false
namespace Go.Proofs.YtdkofaajcpcjkaaGreatDoor
open Go.RowKit
section
variable {K:Kit} {P:Program} {F:Fact} {W:World}
def zbv (P:Program) (T:TypeId):Array Field:=match P.underlying T with
 | some (.struct fs)=>fs
 | _=>#[]
theorem e_faD {T:TypeId} {i off m:Nat} {x o:Lf} {ps:List Pred} (hT:P.underlying T=some (.struct (zbv P T))) (hd:((zbv P T)[i]?).map (fun d=>(d.offset,szOf P d.type))=some (off,some (m+1))) (hx:Says F x (pP ps)) (ho:Says F o (pP (ps.drop off))) (hl:off≤ps.length):Ent.sound K P F (.op (.fa T i) [LF x] [] (LF o)):=by
 obtain ⟨d,h1,h2⟩:=Option.map_eq_some_iff.1 hd
 injection h2 with h2 h3
 exact e_fa (us:=ps.take off) hT h1 h3 hx (List.take_append_drop off ps).symm (by rw [List.length_take,h2];omega) ho
theorem zjJ {ps:List Pred} (h:FineAll K ps) (n:Nat):FineAll K (ps.drop n):=FineAll.of fun p hp=>h.mem p (List.mem_of_mem_drop hp)
end
end Go.Proofs.YtdkofaajcpcjkaaGreatDoor
