/-
  Plain facts on heats: what Check, Run, Rest, Growth and Meet compute, as integers; no program in sight.
-/
import Derived.WalkKit
namespace Go.Proofs.Ytdiidinbgnjjmaa
open Go.RowKit

/-- A machine's heat is valid. -/
def okH (r f t g p : Int) : Bool := decide (1 ≤ r ∧ r ≤ 1000 ∧ 1 ≤ p ∧ p ≤ 1000 ∧ 0 ≤ f ∧ f ≤ 1000 ∧ 0 ≤ t ∧ t ≤ 1000 ∧ 0 ≤ g ∧ g ≤ 1000)
theorem okH_iff {r f t g p : Int} : okH r f t g p = true ↔ (1 ≤ r ∧ r ≤ 1000 ∧ 1 ≤ p ∧ p ≤ 1000 ∧ 0 ≤ f ∧ f ≤ 1000 ∧ 0 ≤ t ∧ t ≤ 1000 ∧ 0 ≤ g ∧ g ≤ 1000) := by unfold okH; exact decide_eq_true_iff
def chk (r f t g p : Int) : Int := if okH r f t g p = true then 0 else 3
/-- Heat, temperature and ticks are valid. -/
def okAll (r f t g p lo hi n : Int) : Bool := okH r f t g p && decide (0 ≤ lo ∧ lo ≤ hi ∧ hi ≤ t ∧ 0 ≤ n ∧ n ≤ 10000)
theorem okAll_iff {r f t g p lo hi n : Int} : okAll r f t g p lo hi n = true ↔ (okH r f t g p = true ∧ (0 ≤ lo ∧ lo ≤ hi ∧ hi ≤ t ∧ 0 ≤ n ∧ n ≤ 10000)) := by
  unfold okAll; rw [Bool.and_eq_true, decide_eq_true_iff]
def chk2 (r f t g p lo hi n : Int) : Int := if okAll r f t g p lo hi n = true then 0 else 3

def runLo (r f t g p lo hi n : Int) : Int := if okAll r f t g p lo hi n = true then min (lo + n) t else 0
def runHi (r f t g p lo hi n : Int) : Int := if okAll r f t g p lo hi n = true then min (hi + n * r) t else 0
def restLo (r f t g p lo hi n : Int) : Int := if okAll r f t g p lo hi n = true then max (lo - n * f) 0 else 0
def restHi (r f t g p lo hi n : Int) : Int := if okAll r f t g p lo hi n = true then hi else 0
def growLo (r f t g p lo hi : Int) : Int := if okAll r f t g p lo hi 0 = true then g * lo / p else 0
def growHi (r f t g p lo hi : Int) : Int := if okAll r f t g p lo hi 0 = true then (g * hi + p - 1) / p else 0
def meetLo (a b c d : Int) : Int := if max a c ≤ min b d then max a c else 0
def meetHi (a b c d : Int) : Int := if max a c ≤ min b d then min b d else 0
def meetE (a b c d : Int) : Int := if max a c ≤ min b d then 0 else 21
end Go.Proofs.Ytdiidinbgnjjmaa
