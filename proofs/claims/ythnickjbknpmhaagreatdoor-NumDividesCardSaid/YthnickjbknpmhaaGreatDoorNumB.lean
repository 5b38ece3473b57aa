/-
  The contracts of Right, of the reference's Right, trim, at and Same.
-/
import Derived.Test.YthnickjbknpmhaaGreatDoorNumA
namespace Go.Proofs.YthnickjbknpmhaaGreatDoor
open Go.RowKit

def rightB (neg : Bool) (l : List Nat) : Bool := (l.isEmpty && !neg) || (!l.isEmpty && decide (l.length ≤ 64) && !(l.getLast? == some 0))

set_option maxHeartbeats 400000 in
theorem reftrim_any (A : Option Addr) (n c B : Nat) (l : List Nat) (w : World) (h : RD w B A n l) (hn : n ≤ c) (hm : c ≤ 9223372036854775807) :
    Calls Tryz.prog 48 #[.slice A n c] w fun e w' => e = .returned (.slice A (trimL l).length c) ∧ w = w' := by
  have HL := Lib.hid h.len
  have H := Lib.hid h
  clear h
  go_enter Tryz.func48, Tryz.ntmps48
  go_wp2
  go_loop [3] (fun v => ∃ k : Nat, k ≤ n ∧ v = .int .i64 k ∧ Hid (trimL (l.take k) = trimL l)) (fun v => (intOf v).toNat)
  case atStart => exact ⟨n, Nat.le_refl _, rfl, by unfold Hid; rw [List.take_of_length_le (by have := HL.out; omega)]⟩
  case round =>
    obtain ⟨k, hk, rfl, hT⟩ := hrel
    cases k with
    | zero =>
      go_wp2
      go_ret
      have e : (trimL l).length = 0 := by rw [← hT.out]; simp [trimL]
      rw [e]
      exact ⟨rfl, rfl⟩
    | succ j =>
      obtain ⟨ad, hl, rfl, hb, hc, hd⟩ := H.out.at_ (k := j) (by omega)
      by_cases hz : l[j] = 0
      · rw [hz] at hc
        have hT' : Hid (trimL (l.take j) = trimL l) := by unfold Hid; rw [← trimL_of_zero hl hz]; exact hT.out
        clear hz hd
        go_wp2
        go_round
        case rel => exact ⟨j, by omega, by simp, hT'⟩
        case measure => simp [intOf]
      · have hz' : ((l[j] : Int) == 0) = false := by simp; exact hz
        go_wp2
        go_ret
        have e : (trimL l).length = j + 1 := by
          rw [← hT.out, trimL_of_pos hl hz, List.length_take]; omega
        rw [e]
        exact ⟨rfl, rfl⟩

theorem rightB_nil {neg : Bool} {l : List Nat} (h : l.length = 0) : rightB neg l = !neg := by
  rw [List.eq_nil_of_length_eq_zero h]; simp [rightB]
theorem rightB_cons {neg : Bool} {l : List Nat} {j : Nat} (h : l.length = j + 1) (hj : j < l.length) : rightB neg l = (decide (j + 1 ≤ 64) && !(l[j] == 0)) := by
  have h0 : l.isEmpty = false := by cases l with
    | nil => simp at h
    | cons => rfl
  have h1 : l.getLast? = some l[j] := by
    rw [List.getLast?_eq_getElem?, h]; exact List.getElem?_eq_getElem hj
  unfold rightB
  rw [h1, h]
  simp [h0]
theorem ret_bool {a b : Bool} (h : a = b) : Ending.returned (.bool a) = .returned (.bool b) := by rw [h]

set_option maxHeartbeats 400000 in
theorem right_any (neg : Bool) (A : Option Addr) (n c B : Nat) (l : List Nat) (w : World) (h : RD w B A n l) (hB : B ≤ w.heap.size) (hn : n ≤ c) :
    Calls Tryz.prog 24 #[.agg #[.bool neg, .slice A n c]] w fun e w' => e = .returned (.bool (rightB neg l)) ∧ Below w.heap.size w w' := by
  have HL := Lib.hid h.len
  have H := Lib.hid h
  clear h
  go_enter Tryz.func24, Tryz.ntmps24
  cases n with
  | zero =>
    cases neg <;> go_wp2
    all_goals go_ret
    all_goals refine ⟨ret_bool ?_, by go_grown⟩
    all_goals rw [rightB_nil HL.out]
    all_goals rfl
  | succ j =>
    obtain ⟨ad, hl, rfl, hb, hc, hd⟩ := H.out.at_ (k := j) (by omega)
    have R := Lib.hid (rightB_cons (neg := neg) HL.out hl)
    have hca : ∀ o, (w.alloc o).cell? (ad.add j) = some (.int .u32 (l[j] : Nat)) := fun o => (World.cell?_alloc_lt w o _ (by rw [block_of_add]; omega)).trans hc
    clear hc hb hd
    by_cases hz : l[j] = 0
    · rw [hz] at hca R
      go_wp2
      all_goals go_ret
      all_goals refine ⟨ret_bool ?_, by go_grown⟩
      all_goals rw [R.out]
      all_goals simp
      all_goals omega
    · have hz' : ((l[j] : Int) != 0) = true := by simp; exact hz
      go_wp2
      all_goals go_ret
      all_goals refine ⟨ret_bool ?_, by go_grown⟩
      all_goals rw [R.out]
      all_goals simp [hz]
      all_goals omega
end Go.Proofs.YthnickjbknpmhaaGreatDoor
