/-
  The contract of strconv.FormatUint at base 10.
-/
import Derived.Test.YthnickjbknpmhaaGreatDoorNumDec
import Derived.Test.YthnickjbknpmhaaGreatDoorShelf
import Derived.Lib.AppendIntMem
namespace Go.Proofs.YthnickjbknpmhaaGreatDoor
open Go.RowKit Go.Shelf

def zerosN (n : Nat) : Array Value := Array.replicate n (.int .u8 0)
theorem holds_zeroN (w : World) (T : TypeId) (N nd : Nat) (hs : nd ≤ N) : Sort.Holds (fun (b : UInt8) => Value.int .u8 (b.toNat : Int)) (w.alloc (.cells (zerosN N) T)) w.heap.size 0 (Array.replicate nd (0 : UInt8)) := fun j hj => by
  have hj' : j < nd := by simpa using hj
  refine ⟨?_, World.frozen?_alloc_new _ _ _ _⟩
  rw [World.cell?_alloc_new, zerosN, Array.getElem?_replicate, if_pos (by omega), getElem!_pos _ j hj]
  simp

set_option maxHeartbeats 6400000 in
set_option maxRecDepth 100000 in
theorem ifu_any (u : Nat) (hu64 : u < 18446744073709551616) (w : World) (htab : Lib.TabIs Tryz.prog w "internal/strconv.uint64pow10" .u64 Lib.pow10Tab) :
    Calls Tryz.prog 71 #[.int .u64 u, .int .i64 10] w fun e w' => e = .returned (.string ⟨(Lib.decDigits u).toArray⟩) ∧ Below w.heap.size w w' := by
  obtain ⟨x, hx⟩ : ∃ x : Int, (u : Int) = x := ⟨_, rfl⟩
  rcases Nat.lt_or_ge u 100 with hs | hs
  · have h100 : x < 100 := by omega
    have hw : IntKind.i64.wrap x = x := by rw [IntKind.wrap_i64]; omega
    have SM := Lib.hid (Tryz.internal_strconv_small u hs)
    rw [hx] at SM ⊢
    clear hx hs
    go_enter Tryz.func71, Tryz.ntmps71
    go_wp2_with (go_at_call 89; refine (SM.out _).mono ?_; rintro e w' ⟨rfl, rfl⟩)
    go_ret
    exact ⟨rfl, Below.refl _ _⟩
  · have h100 : ¬ x < 100 := by omega
    have hu1 : 1 ≤ u := by omega
    have hnd20 : Lib.nDigits u ≤ 20 := by have := Lib.numDigits_eq u hu1 hu64; split at this <;> omega
    obtain ⟨nd, hnd⟩ : ∃ nd, Lib.nDigits u = nd := ⟨_, rfl⟩
    have hal : Tryz.prog.arrayLen 116 = 24 := by kernel_rfl
    have hsl1 : ∀ W, (Instr.sliceAt 116 (.pointer (some ⟨w.heap.size, 0, none⟩)) none (some (.int .i64 (nd : Int))) none).run Tryz.prog W = .ok (.slice (some ⟨w.heap.size, 0, none⟩) nd 24) W := fun W => by
      rw [run_sliceAt_array_h W 116 ⟨w.heap.size, 0, none⟩ (by kernel_rfl) .i64 (nd : Int) (by omega) (by rw [hal]; omega)]
      rw [hal]; rfl
    have hH0 := holds_zeroN w 116 24 nd (by omega)
    have hfmt := Tryz.internal_strconv_formatBase10 w.heap.size 0 24 u (Array.replicate nd 0) (w.alloc (.cells (zerosN 24) 116)) hH0 (by rw [Array.size_replicate, ← hnd]; exact Lib.lt_pow_nDigits u) hu64 (by rw [Array.size_replicate]; omega)
    rw [Array.size_replicate] at hfmt
    have ND := Lib.hid (Tryz.internal_strconv_numDigits u hu1 hu64 _ (Lib.tabIs_alloc htab (.cells (zerosN 24) 116)))
    have FM := Lib.hid hfmt
    have HH0 := Lib.hid hH0
    rw [hnd] at ND
    rw [hx] at ND FM ⊢
    have hx2 := Lib.hid hx
    clear hH0 hal hfmt hs hx htab hu1
    go_enter Tryz.func71, Tryz.ntmps71
    go_wp2_with (first
      | (go_at_call 90; refine (ND.out).mono ?_; rintro e w' ⟨rfl, rfl⟩)
      | (go_at_call 91; refine (FM.out).mono ?_; rintro e w' ⟨rfl, k, v', dk, rfl, hF⟩; have FF := Lib.hid hF; clear hF)
      | fail "no arm")
    have hcv : (convert 98 9 (.slice (some ⟨w.heap.size, 0, none⟩) nd 24)).run Tryz.prog ((Sort.putRow (fun (b : UInt8) => Value.int .u8 (b.toNat : Int)) (w.alloc (.cells (zerosN 24) 116)) w.heap.size 0 dk).drewN k) = .ok (.string ⟨(Lib.decDigits u).toArray⟩) ((Sort.putRow (fun (b : UInt8) => Value.int .u8 (b.toNat : Int)) (w.alloc (.cells (zerosN 24) 116)) w.heap.size 0 dk).drewN k) := by
      have hF := FF.out
      rw [← hnd] at hF
      have h := run_convert_bytes_back (P := Tryz.prog) ((Sort.putRow (fun (b : UInt8) => Value.int .u8 (b.toNat : Int)) (w.alloc (.cells (zerosN 24) 116)) w.heap.size 0 dk).drewN k) 98 9 5 ⟨w.heap.size, 0, none⟩ 24 (Lib.decDigits u) Tryz.underlying98 Tryz.underlying5 Tryz.underlying9 (fun j hj => by
        rw [Lib.row_is_numeral hF j hj, Lib.add_plain, World.cell?_drewN]
        exact Sort.cell?_putRow (fun (b : UInt8) => Value.int .u8 (b.toNat : Int)) _ w.heap.size 0 _ dk HH0.out (by rw [hF.size, Array.size_replicate, hnd]) j (by rw [hF.size]; rw [Lib.decDigits_length] at hj; exact hj))
      rw [Lib.decDigits_length, hnd] at h
      exact h
    rw [hcv]
    go_wp2
    go_ret
    refine ⟨rfl, ?_⟩
    rw [Sort.alloc_eq_grow]
    obtain ⟨os', _, e⟩ := Sort.putRow_grow_new (fun (b : UInt8) => Value.int .u8 (b.toNat : Int)) w #[(.cells (zerosN 24) 116)] w.heap.size 0 dk (Nat.le_refl _)
    rw [e]
    have hg : Below w.heap.size w (Sort.grow w os') := ⟨rfl, rfl, rfl, by simp, fun i hi => Sort.heap_grow_old w os' hi⟩
    exact below_drewN hg k

set_option maxRecDepth 100000 in
theorem fu_any (u : Nat) (hu64 : u < 18446744073709551616) (w : World) (htab : Lib.TabIs Tryz.prog w "internal/strconv.uint64pow10" .u64 Lib.pow10Tab) :
    Calls Tryz.prog 46 #[.int .u64 u, .int .i64 10] w fun e w' => e = .returned (.string ⟨(Lib.decDigits u).toArray⟩) ∧ Below w.heap.size w w' := by
  have F := Lib.hid (ifu_any u hu64 w htab)
  obtain ⟨x, hx⟩ : ∃ x : Int, (u : Int) = x := ⟨_, rfl⟩
  rw [hx] at F ⊢
  clear hx htab
  go_enter Tryz.func46, Tryz.ntmps46
  go_wp2_with (go_at_call 71; refine (F.out).mono ?_; rintro e w' ⟨rfl, hb⟩)
  go_ret
  exact ⟨rfl, hb⟩
end Go.Proofs.YthnickjbknpmhaaGreatDoor
