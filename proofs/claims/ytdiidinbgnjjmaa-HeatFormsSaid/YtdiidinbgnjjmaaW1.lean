/-
  The contracts of heat.within, heat.Check and the reference's.
-/
import Derived.Test.YtdiidinbgnjjmaaBase
namespace Go.Proofs.Ytdiidinbgnjjmaa
open Go.RowKit

def allIn (lo hi : Int) (zs : List Int) : Bool := zs.all fun z => decide (lo ≤ z) && decide (z ≤ hi)
theorem allIn_take (lo hi : Int) (zs : List Int) (k : Nat) (h : k < zs.length) : allIn lo hi (zs.take (k + 1)) = (allIn lo hi (zs.take k) && (decide (lo ≤ zs[k]) && decide (zs[k] ≤ hi))) := by
  unfold allIn; rw [List.take_succ_eq_append_getElem h, List.all_append]; simp
theorem allIn_false (lo hi : Int) (zs : List Int) (k : Nat) (h : k < zs.length) (hz : ¬ (lo ≤ zs[k] ∧ zs[k] ≤ hi)) : allIn lo hi zs = false := by
  unfold allIn
  rw [List.all_eq_false]
  exact ⟨zs[k], List.getElem_mem h, by simpa using hz⟩

set_option maxHeartbeats 400000 in
theorem within_any (lo hi : Int) (A : Option Addr) (n c B : Nat) (zs : List Int) (w : World) (hr : Reads w B 1 A n (zs.map (Value.int .i64))) (hn : n ≤ 100) :
    Calls Try.prog 30 #[.int .i64 lo, .int .i64 hi, .slice A n c] w fun e w' => e = .returned (.bool (allIn lo hi zs)) ∧ w = w' := by
  have hlen : zs.length = n := by have := hr.1; simpa using this
  have HL := Lib.hid hlen
  clear hlen
  go_enter Try.func30, Try.ntmps30
  go_wp2
  go_loop [11] (fun i => ∃ k : Nat, k ≤ n ∧ i = .int .i64 k ∧ Hid (allIn lo hi (zs.take k) = true)) (fun i => n - (intOf i).toNat)
  case atStart => exact ⟨0, Nat.zero_le _, rfl, by simp [Hid, allIn]⟩
  case round =>
    obtain ⟨k, hk, rfl, hA⟩ := hrel
    by_cases hlt : k < n
    · obtain ⟨ad, u, rfl, hb, hu, hc⟩ := hr.at_ hlt
      have hk' : k < zs.length := by have := HL.out; omega
      obtain rfl : u = .int .i64 zs[k] := by
        rw [List.getElem?_map, List.getElem?_eq_getElem hk'] at hu
        simpa using hu.symm
      have hs := Lib.hid (allIn_take lo hi zs k hk')
      clear hu hr
      obtain ⟨z, hz⟩ : ∃ z, z = zs[k] := ⟨_, rfl⟩
      rw [← hz] at hc hs
      by_cases h1 : lo ≤ z
      · by_cases h2 : z ≤ hi
        · have hd1 : decide (z < lo) = false := by simpa using h1
          have hd2 : decide (hi < z) = false := by simpa using h2
          have HZ := Lib.hid hz
          clear hz
          go_wp2
          go_round
          case rel => exact ⟨k + 1, by omega, by go_num, by unfold Hid; rw [hs.out, hA.out]; simp [h1, h2]⟩
          case measure => simp [intOf]; omega
        · have HZ := Lib.hid hz
          clear hz
          go_wp2
          go_ret
          exact ⟨by rw [allIn_false lo hi zs k hk' (by rw [← HZ.out]; omega)]; rfl, rfl⟩
      · have HZ := Lib.hid hz
        clear hz
        go_wp2
        go_ret
        exact ⟨by rw [allIn_false lo hi zs k hk' (by rw [← HZ.out]; omega)]; rfl, rfl⟩
    · go_wp2
      go_ret
      exact ⟨by rw [List.take_of_length_le (by have := HL.out; omega)] at hA; rw [hA.out]; rfl, rfl⟩

theorem reads_new (w : World) (T : TypeId) (xs : List Value) (g n B : Nat) (hg : g = w.heap.size) (hB : g < B) (h : xs.length = n) : Reads (w.alloc (.cells xs.toArray T)) B 1 (some ⟨g, 0, none⟩) n xs := by
  subst hg
  refine ⟨by simpa using h, fun _ => ⟨_, rfl, hB, fun j u hu => ?_⟩⟩
  have e : (⟨w.heap.size, 0, none⟩ : Addr).add j = ⟨w.heap.size, j, none⟩ := by unfold Addr.add; split <;> simp [*]
  rw [e, World.cell?_alloc_at _ _ _ _ rfl]
  simpa using hu

set_option maxHeartbeats 400000 in
theorem refwithin_any (n lo hi : Int) (w : World) :
    Calls Try.prog 31 #[.int .i64 n, .int .i64 lo, .int .i64 hi] w fun e w' => e = .returned (.bool (decide (lo ≤ n) && decide (n ≤ hi))) ∧ w = w' := by
  by_cases h1 : lo ≤ n
  · by_cases h2 : n ≤ hi
    · go_enter Try.func31, Try.ntmps31
      go_wp2
      go_ret
      exact ⟨by simp [h1, h2], rfl⟩
    · have e : (decide (lo ≤ n) && decide (n ≤ hi)) = false := by simp [h2]
      rw [e]
      go_enter Try.func31, Try.ntmps31
      go_wp2
      go_ret
      exact ⟨rfl, rfl⟩
  · have e : (decide (lo ≤ n) && decide (n ≤ hi)) = false := by simp [h1]
    rw [e]
    go_enter Try.func31, Try.ntmps31
    go_wp2
    go_ret
    exact ⟨rfl, rfl⟩

theorem chk_yes {r f t g p : Int} (h1 : allIn 1 1000 [r, p] = true) (h2 : allIn 0 1000 [f, t, g] = true) : chk r f t g p = 0 := by
  unfold chk; rw [if_pos]; rw [okH_iff]; simp [allIn] at h1 h2; omega
theorem chk_no {r f t g p : Int} (h : allIn 1 1000 [r, p] = false ∨ allIn 0 1000 [f, t, g] = false) : chk r f t g p = 3 := by
  unfold chk; rw [if_neg]; rw [okH_iff]; simp [allIn] at h; omega

set_option maxHeartbeats 400000 in
theorem check_any (r f t g p : Int) (w : World) :
    Calls Try.prog 12 #[.agg #[.int .i64 r, .int .i64 f, .int .i64 t, .int .i64 g, .int .i64 p]] w fun e w' => e = .returned (.int .i64 (chk r f t g p)) ∧ Below w.heap.size w w' := by
  cases h1 : allIn 1 1000 [r, p]
  · rw [chk_no (.inl h1)]
    have H1 := Lib.hid h1
    clear h1
    go_enter Try.func12, Try.ntmps12
    go_wp2_with fail
    refine (within_any 1 1000 _ 2 2 (w.heap.size + 2) [r, p] _ (reads_new _ 3 [.int .i64 r, .int .i64 p] _ 2 _ (by simp) (by omega) rfl) (by omega)).mono ?_
    rintro e w' ⟨rfl, rfl⟩
    rw [H1.out]
    go_wp2
    go_ret
    refine ⟨rfl, ?_⟩
    go_grown
  · cases h2 : allIn 0 1000 [f, t, g]
    · rw [chk_no (.inr h2)]
      have H1 := Lib.hid h1
      have H2 := Lib.hid h2
      clear h1 h2
      go_enter Try.func12, Try.ntmps12
      go_wp2_with fail
      refine (within_any 1 1000 _ 2 2 (w.heap.size + 2) [r, p] _ (reads_new _ 3 [.int .i64 r, .int .i64 p] _ 2 _ (by simp) (by omega) rfl) (by omega)).mono ?_
      rintro e w' ⟨rfl, rfl⟩
      rw [H1.out]
      go_wp2_with fail
      refine (within_any 0 1000 _ 3 3 (w.heap.size + 3) [f, t, g] _ (reads_new _ 3 [.int .i64 f, .int .i64 t, .int .i64 g] _ 3 _ (by simp) (by omega) rfl) (by omega)).mono ?_
      rintro e w' ⟨rfl, rfl⟩
      rw [H2.out]
      go_wp2
      go_ret
      refine ⟨rfl, ?_⟩
      go_grown
    · rw [chk_yes h1 h2]
      have H1 := Lib.hid h1
      have H2 := Lib.hid h2
      clear h1 h2
      go_enter Try.func12, Try.ntmps12
      go_wp2_with fail
      refine (within_any 1 1000 _ 2 2 (w.heap.size + 2) [r, p] _ (reads_new _ 3 [.int .i64 r, .int .i64 p] _ 2 _ (by simp) (by omega) rfl) (by omega)).mono ?_
      rintro e w' ⟨rfl, rfl⟩
      rw [H1.out]
      go_wp2_with fail
      refine (within_any 0 1000 _ 3 3 (w.heap.size + 3) [f, t, g] _ (reads_new _ 3 [.int .i64 f, .int .i64 t, .int .i64 g] _ 3 _ (by simp) (by omega) rfl) (by omega)).mono ?_
      rintro e w' ⟨rfl, rfl⟩
      rw [H2.out]
      go_wp2
      go_ret
      refine ⟨rfl, ?_⟩
      go_grown

set_option maxHeartbeats 400000 in
theorem refcheck_any (r f t g p : Int) (w : World) :
    Calls Try.prog 13 #[.agg #[.int .i64 r, .int .i64 f, .int .i64 t, .int .i64 g, .int .i64 p]] w fun e w' => e = .returned (.int .i64 (chk r f t g p)) ∧ Below w.heap.size w w' := by
  by_cases h : okH r f t g p = true
  · have e1 : chk r f t g p = 0 := by unfold chk; rw [if_pos h]
    rw [e1]
    rw [okH_iff] at h
    obtain ⟨a1, a2, a3, a4, a5, a6, a7, a8, a9, a10⟩ := h
    go_enter Try.func13, Try.ntmps13
    go_wp2_with (go_at_call 31; refine (refwithin_any _ _ _ _).mono ?_; rintro e w' ⟨rfl, rfl⟩)
    go_ret
    refine ⟨rfl, ?_⟩
    go_grown
  · have e1 : chk r f t g p = 3 := by unfold chk; rw [if_neg h]
    rw [e1]
    rw [okH_iff] at h
    have H := Lib.hid h
    clear h
    go_enter Try.func13, Try.ntmps13
    go_wp2_with (go_at_call 31; refine (refwithin_any _ _ _ _).mono ?_; rintro e w' ⟨rfl, rfl⟩)
    all_goals go_ret
    all_goals first | exact ⟨rfl, by go_grown⟩ | (exfalso; apply H.out; simp at *; omega)
end Go.Proofs.Ytdiidinbgnjjmaa
