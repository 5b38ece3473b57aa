/-
  The contracts of over (all cases), and of Of.
-/
import Derived.Test.YthnickjbknpmhaaGreatDoorNumV
import Derived.Test.YthnickjbknpmhaaGreatDoorNumQw
namespace Go.Proofs.YthnickjbknpmhaaGreatDoor
open Go.RowKit Go.Shelf

theorem over_any {A A2 : Option Addr} {n n2 c c2 B : Nat} {l m : List Nat} {w : World} (h : Sl w B A n c l) (h2 : Sl w B A2 n2 c2 m) (hB : B ≤ w.heap.size) (hl : Canon l) (hm : Canon m) (hn : n ≤ 1000) (h0 : 0 < n2) :
    Calls Tryz.prog 25 #[.slice A n c, .slice A2 n2 c2] w (RetOver (nval l) (nval m) w) := by
  rcases Nat.lt_or_ge (nval l) (nval m) with hv | hv
  · exact over_less h h2 hB hl hm hv
  · by_cases h1 : n2 = 1
    · exact over_one h h2 hB hl hm hn hv h1
    · obtain ⟨k, rfl⟩ : ∃ k, n2 = k + 1 := ⟨n2 - 1, by omega⟩
      exact over_big h h2 hB hl hm hn (by omega) hv

/-- What Of returns. -/
def RetA (x : Int) (w : World) (e : Ending) (w' : World) : Prop :=
  ∃ A n c, e = .returned (.agg #[.bool (decide (x < 0)), .slice A n c]) ∧ Sl w' w'.heap.size A n c (digs x.natAbs) ∧ Below w.heap.size w w'
theorem two_digs {v : Nat} (h : v < 18446744073709551616) : nval [v % 4294967296, v / 4294967296] = v ∧ Dig [v % 4294967296, v / 4294967296] := by
  refine ⟨by simp [nval]; omega, fun d hd => ?_⟩
  simp at hd
  omega
theorem fit_small {x : Int} (h : x.natAbs < 18446744073709551616) : vO (fitO x) = x := by
  rw [fitO_v]; unfold numv
  rw [if_pos]
  exact Nat.lt_of_lt_of_le h (by unfold big; exact Nat.pow_le_pow_right (n := 4294967296) (i := 2) (j := 64) (by omega) (by omega))

theorem S1.frz {w W : World} {neg : Bool} {A : Option Addr} {n c : Nat} (h : S1 w neg A n c W) : (∀ i, W.frozen? ⟨w.heap.size, i, none⟩ = false) ∧ w.heap.size < W.heap.size := by
  have h' : Below (w.heap.size + 1) (w.alloc (.cells #[.bool neg, .slice A n c] 26)) W := h
  refine ⟨fun i => ?_, by have := S1.size h; omega⟩
  rw [h'.frozen (p := ⟨w.heap.size, i, none⟩) (by simp)]; simp [go_sem]

set_option maxRecDepth 100000 in
set_option maxHeartbeats 1000000 in
theorem of_nn (x : Int) (w : World) (h0 : 0 ≤ x) (h1 : x < 9223372036854775808) :
    Calls Tryz.prog 17 #[.int .i64 x] w (RetA x w) := by
  obtain ⟨hv, hd⟩ := two_digs (v := x.natAbs) (by omega)
  have hf := fit_small (x := x) (by omega)
  have hsg : sgn false x.natAbs = x := by unfold sgn; simp; omega
  have e1 : IntKind.u64.wrap x = x := by rw [IntKind.wrap_u64]; omega
  have e2 : IntKind.u32.wrap x = ((x.natAbs % 4294967296 : Nat) : Int) := by rw [IntKind.wrap_u32]; omega
  have e3 : IntKind.u32.wrap (x / 4294967296) = ((x.natAbs / 4294967296 : Nat) : Int) := by rw [IntKind.wrap_u32]; omega
  have e4 : ¬ x < 0 := by omega
  have hng : ngO (fitO x) = decide (x < 0) := by unfold ngO; rw [hf]
  obtain ⟨v, ev⟩ : ∃ v, x.natAbs = v := ⟨_, rfl⟩
  rw [ev] at hv hd hsg e2 e3
  obtain ⟨d0, ed0⟩ : ∃ d0, v % 4294967296 = d0 := ⟨_, rfl⟩
  obtain ⟨d1, ed1⟩ : ∃ d1, v / 4294967296 = d1 := ⟨_, rfl⟩
  rw [ed0, ed1] at hv hd
  rw [ed0] at e2
  rw [ed1] at e3
  clear ed0 ed1 ev
  have hb1 : decide (x < 0) = false := by simp; omega
  have s0 := S1.start (w := w) (neg := false) (A := none) (n := 0) (c := 0)
  have hD : DBk ((w.alloc (.cells #[.bool false, .slice none 0 0] 26)).alloc (.cells #[.int .u32 (d0 : Nat), .int .u32 (d1 : Nat)] 40)) (w.heap.size + 1) 40 [d0, d1] := heap_alloc_at _ _ _ (by simp)
  have hsl := Lib.hid (hD.sl (B := w.heap.size + 1 + 1) hd (by omega) (by simp))
  have s1 := s0.via ((Below.refl _ _).alloc (Nat.le_refl _) (.cells #[.int .u32 (d0 : Nat), .int .u32 (d1 : Nat)] 40))
  clear hD
  go_enter Tryz.func17, Tryz.ntmps17
  go_wp2_with (first
    | (go_at_call 28; (with_reducible refine (number_any _ 2 2 _ v false [d0, d1] _ hsl.out (by simp) hv).mono ?_); rw [hsg]; rintro e w2 hr; obtain ⟨A4, n4, c4, rfl, hs4, hb4⟩ := retN_of hr; rw [hng, hb1]; rw [hf] at hs4; have s2 := s1.via hb4; obtain ⟨r0, r1⟩ := s2.facts; obtain ⟨rf, rz⟩ := s2.frz)
    | fail "no arm")
  obtain ⟨q0, q1⟩ := two_set (.bool false) (.slice A4 n4 c4) r0 r1
  refine bodyPost_ret (v := .agg #[.bool false, .slice A4 n4 c4]) ?_ rfl ⟨_, _, _, by rw [hb1], ?_, ?_⟩
  · simp [results, Tryz.f17, go_sem, q0, q1, rz]
  · exact ((hs4.stored r0 r1 _ _).below ((Below.refl _ _).alloc (Nat.le_refl _) _)).more (by simp)
  · exact ((s2.below.setCell (by simp) _).setCell (by simp) _).alloc (by simp [World.setCell]; omega) _

set_option maxRecDepth 100000 in
set_option maxHeartbeats 1000000 in
theorem of_neg (x : Int) (w : World) (h0 : x < 0) (h1 : -9223372036854775808 ≤ x) :
    Calls Tryz.prog 17 #[.int .i64 x] w (RetA x w) := by
  obtain ⟨hv, hd⟩ := two_digs (v := x.natAbs) (by omega)
  have hf := fit_small (x := x) (by omega)
  have hsg : sgn true x.natAbs = x := by unfold sgn; simp; omega
  obtain ⟨z, ez⟩ : ∃ z, IntKind.u64.wrap (-(IntKind.u64.wrap x)) = z := ⟨_, rfl⟩
  have ez2 : z = (x.natAbs : Int) := by rw [← ez, IntKind.wrap_u64, IntKind.wrap_u64]; omega
  have ez3 : 0 ≤ z ∧ z ≤ 18446744073709551615 := by omega
  have e2 : IntKind.u32.wrap z = ((x.natAbs % 4294967296 : Nat) : Int) := by rw [IntKind.wrap_u32]; omega
  have e3 : IntKind.u32.wrap (z / 4294967296) = ((x.natAbs / 4294967296 : Nat) : Int) := by rw [IntKind.wrap_u32]; omega
  have e4 : x < 0 := h0
  have hng : ngO (fitO x) = decide (x < 0) := by unfold ngO; rw [hf]
  obtain ⟨v, ev⟩ : ∃ v, x.natAbs = v := ⟨_, rfl⟩
  rw [ev] at hv hd hsg e2 e3
  obtain ⟨d0, ed0⟩ : ∃ d0, v % 4294967296 = d0 := ⟨_, rfl⟩
  obtain ⟨d1, ed1⟩ : ∃ d1, v / 4294967296 = d1 := ⟨_, rfl⟩
  rw [ed0, ed1] at hv hd
  rw [ed0] at e2
  rw [ed1] at e3
  clear ed0 ed1 ev ez2
  have hb1 : decide (x < 0) = true := by simp; omega
  have s0 := S1.start (w := w) (neg := false) (A := none) (n := 0) (c := 0)
  have hD : DBk ((w.alloc (.cells #[.bool false, .slice none 0 0] 26)).alloc (.cells #[.int .u32 (d0 : Nat), .int .u32 (d1 : Nat)] 40)) (w.heap.size + 1) 40 [d0, d1] := heap_alloc_at _ _ _ (by simp)
  have hsl := Lib.hid (hD.sl (B := w.heap.size + 1 + 1) hd (by omega) (by simp))
  have s1 := s0.via ((Below.refl _ _).alloc (Nat.le_refl _) (.cells #[.int .u32 (d0 : Nat), .int .u32 (d1 : Nat)] 40))
  clear hD
  go_enter Tryz.func17, Tryz.ntmps17
  go_wp2_with (first
    | (go_at_call 28; (with_reducible refine (number_any _ 2 2 _ v true [d0, d1] _ hsl.out (by simp) hv).mono ?_); rw [hsg]; rintro e w2 hr; obtain ⟨A4, n4, c4, rfl, hs4, hb4⟩ := retN_of hr; rw [hng, hb1]; rw [hf] at hs4; have s2 := s1.via hb4; obtain ⟨r0, r1⟩ := s2.facts; obtain ⟨rf, rz⟩ := s2.frz)
    | fail "no arm")
  obtain ⟨q0, q1⟩ := two_set (.bool true) (.slice A4 n4 c4) r0 r1
  refine bodyPost_ret (v := .agg #[.bool true, .slice A4 n4 c4]) ?_ rfl ⟨_, _, _, by rw [hb1], ?_, ?_⟩
  · simp [results, Tryz.f17, go_sem, q0, q1, rz]
  · exact ((hs4.stored r0 r1 _ _).below ((Below.refl _ _).alloc (Nat.le_refl _) _)).more (by simp)
  · exact ((s2.below.setCell (by simp) _).setCell (by simp) _).alloc (by simp [World.setCell]; omega) _

theorem of_any (x : Int) (w : World) (h0 : -9223372036854775808 ≤ x) (h1 : x < 9223372036854775808) :
    Calls Tryz.prog 17 #[.int .i64 x] w (RetA x w) := by
  rcases Int.lt_or_le x 0 with h | h
  · exact of_neg x w h h0
  · exact of_nn x w h h1
end Go.Proofs.YthnickjbknpmhaaGreatDoor
