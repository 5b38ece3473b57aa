/-
  The contracts of trim, and of the reference's trim.
-/
import Derived.Test.YthnickjbknpmhaaGreatDoorNumBase
namespace Go.Proofs.YthnickjbknpmhaaGreatDoor
open Go.RowKit

set_option maxHeartbeats 400000 in
theorem trim_any (A : Option Addr) (n c B : Nat) (l : List Nat) (w : World) (h : RD w B A n l) (hn : n ≤ c) (hm : c ≤ 9223372036854775807) :
    Calls Tryz.prog 50 #[.slice A n c] w fun e w' => e = .returned (.slice A (trimL l).length c) ∧ w = w' := by
  have HL := Lib.hid h.len
  have H := Lib.hid h
  clear h
  go_enter Tryz.func50, Tryz.ntmps50
  go_wp2
  go_loop [0] (fun v => ∃ k : Nat, k ≤ n ∧ v = .slice A k c ∧ Hid (trimL (l.take k) = trimL l)) (fun v => match v with | .slice _ k _ => k | _ => 0)
  case atStart => exact ⟨n, Nat.le_refl _, rfl, by unfold Hid; rw [List.take_of_length_le (by have := HL.out; omega)]⟩
  case round =>
    obtain ⟨k, hk, rfl, hT⟩ := hrel
    cases k with
    | zero =>
      go_wp2
      go_ret
      have e : (trimL l).length = 0 := by rw [← hT.out]; simp [trimL]
      rw [e]
      exact ⟨rfl, rfl⟩
    | succ j =>
      obtain ⟨ad, hl, rfl, hb, hc, hd⟩ := H.out.at_ (k := j) (by omega)
      by_cases hz : l[j] = 0
      · rw [hz] at hc
        have hT' : Hid (trimL (l.take j) = trimL l) := by unfold Hid; rw [← trimL_of_zero hl hz]; exact hT.out
        clear hz hd
        go_wp2
        go_round
        case rel => exact ⟨j, by omega, rfl, hT'⟩
        case measure => simp
      · have hz' : ((l[j] : Int) == 0) = false := by simp; exact hz
        go_wp2
        go_ret
        have e : (trimL l).length = j + 1 := by
          rw [← hT.out, trimL_of_pos hl hz, List.length_take]; omega
        rw [e]
        exact ⟨rfl, rfl⟩
end Go.Proofs.YthnickjbknpmhaaGreatDoor
