/-
  The contract of number; what a Num is.
-/
import Derived.Test.YthnickjbknpmhaaGreatDoorNumL
namespace Go.Proofs.YthnickjbknpmhaaGreatDoor
open Go.RowKit Go.Shelf

/-- The limit of a Num. -/
def big : Nat := 4294967296 ^ 64
/-- A result that fits, and 0 else; whether it fits; its sign. -/
def numv (x : Int) : Int := if x.natAbs < big then x else 0
def okv (x : Int) : Bool := decide (x.natAbs < big)
def negv (x : Int) : Bool := decide (numv x < 0)
def RetNum (x : Int) (w : World) (e : Ending) (w' : World) : Prop :=
  ∃ A n c, e = .returned (.tuple #[.agg #[.bool (negv x), .slice A n c], .bool (okv x)]) ∧ Sl w' w'.heap.size A n c (digs (numv x).natAbs) ∧ Below w.heap.size w w'
/-- A number with a sign. -/
def sgn (neg : Bool) (v : Nat) : Int := if neg then -(v : Int) else v
theorem sgn_abs (neg : Bool) (v : Nat) : (sgn neg v).natAbs = v := by cases neg <;> simp [sgn]
theorem sgn_neg (neg : Bool) (v : Nat) : decide (sgn neg v < 0) = (neg && decide (v ≠ 0)) := by
  cases neg with
  | false => simp [sgn]
  | true =>
    rcases Nat.eq_zero_or_pos v with h | h
    · subst h; rfl
    · have h2 : v ≠ 0 := by omega
      have h3 : sgn true v < 0 := by simp [sgn]; omega
      simp [h2, h3]

theorem tuple_ret {a b a' b' : Bool} {A : Option Addr} {n c : Nat} (h1 : a = a') (h2 : b = b') : Ending.returned (.tuple #[.agg #[.bool a, .slice A n c], .bool b]) = .returned (.tuple #[.agg #[.bool a', .slice A n c], .bool b']) := by rw [h1, h2]

set_option maxRecDepth 100000 in
set_option maxHeartbeats 1000000 in
theorem number_any (A : Option Addr) (n c B v : Nat) (neg : Bool) (l : List Nat) (w : World) (h : Sl w B A n c l) (hB : B ≤ w.heap.size) (hv : nval l = v) :
    Calls Tryz.prog 28 #[.slice A n c, .bool neg] w (RetNum (sgn neg v) w) := by
  have hS := (h.below (w' := w.alloc (.cells #[.bool false, .slice none 0 0] 26)) ((Below.refl _ _).alloc hB _)).val hv
  have hS0 := Lib.hid ((h.below (w' := w.alloc (.cells #[.bool false, .slice none 0 0] 26)) ((Below.refl _ _).alloc hB _)))
  have hlen := hS.len
  obtain ⟨n', hn'⟩ : ∃ n', (trimL l).length = n' := ⟨_, rfl⟩
  have HV := Lib.hid hv
  have HN := Lib.hid hn'
  rw [hn'] at hS hlen
  clear h hn' hv
  rcases Nat.lt_or_ge 64 n' with h64 | h64
  · have hf : ¬ v < big := fun hlt => by have := (digs_fits v).2 hlt; omega
    have e1 : numv (sgn neg v) = 0 := by unfold numv; rw [sgn_abs, if_neg hf]
    have e2 : Hid (negv (sgn neg v) = false ∧ okv (sgn neg v) = false ∧ numv (sgn neg v) = 0) := ⟨by unfold negv; rw [e1]; rfl, by unfold okv; rw [sgn_abs]; exact decide_eq_false hf, e1⟩
    clear hS hlen e1 hf
    go_enter Tryz.func28, Tryz.ntmps28
    go_wp2_with (go_at_call 50; refine (trim_any _ _ _ _ _ _ hS0.out.1 hS0.out.2.1 hS0.out.2.2).mono ?_; rw [HN.out]; rintro e w' ⟨rfl, rfl⟩)
    exact bodyPost_ret (v := .tuple #[.agg #[.bool false, .slice none 0 0], .bool false]) (by simp [results, Tryz.f28, go_sem]) rfl ⟨_, _, _, tuple_ret e2.out.1.symm e2.out.2.1.symm, by rw [e2.out.2.2]; exact ⟨by rw [show digs (Int.natAbs 0) = [] from digs_zero]; exact RD.none_, Nat.le_refl _, by omega⟩, by go_grown⟩
  · have hf : v < big := (digs_fits v).1 (by omega)
    have e1 : numv (sgn neg v) = sgn neg v := by unfold numv; rw [sgn_abs, if_pos hf]
    have e3 : okv (sgn neg v) = true := by unfold okv; rw [sgn_abs]; exact decide_eq_true hf
    have e4 : negv (sgn neg v) = (neg && decide (v ≠ 0)) := by unfold negv; rw [e1]; exact sgn_neg neg v
    rcases Nat.eq_zero_or_pos n' with h0 | h0
    · have hv0 : v = 0 := digs_nil.1 (List.eq_nil_of_length_eq_zero (by omega))
      subst h0
      have e2 : Hid (negv (sgn neg v) = false ∧ okv (sgn neg v) = true ∧ (numv (sgn neg v)).natAbs = 0) := ⟨by rw [e4, hv0]; simp, e3, by rw [e1, sgn_abs, hv0]⟩
      clear hS hlen e1 hf e3 e4 hv0 h64
      go_enter Tryz.func28, Tryz.ntmps28
      go_wp2_with (go_at_call 50; refine (trim_any _ _ _ _ _ _ hS0.out.1 hS0.out.2.1 hS0.out.2.2).mono ?_; rw [HN.out]; rintro e w' ⟨rfl, rfl⟩)
      exact bodyPost_ret (v := .tuple #[.agg #[.bool false, .slice none 0 0], .bool true]) (by simp [results, Tryz.f28, go_sem]) rfl ⟨_, _, _, tuple_ret e2.out.1.symm e2.out.2.1.symm, by rw [e2.out.2.2]; exact ⟨by rw [digs_zero]; exact RD.none_, Nat.le_refl _, by omega⟩, by go_grown⟩
    · have hv0 : v ≠ 0 := fun e => by rw [e, digs_zero] at hlen; simp at hlen; omega
      have e2 : Hid (negv (sgn neg v) = neg ∧ okv (sgn neg v) = true ∧ (numv (sgn neg v)).natAbs = v) := ⟨by rw [e4]; simp [hv0], e3, by rw [e1, sgn_abs]⟩
      clear e1 hf e3 e4 hv0
      have hmk := run_make_row' (P := Tryz.prog) 24 40 (.int .u32 0) 4 Tryz.underlying24 Tryz.infoU32 rfl .i64 .i64 n' (by omega) (by omega)
      have hnew := DBk.new (w.alloc (.cells #[.bool false, .slice none 0 0] 26)) 40 n'
      have hcpy := copy_digits (dT := 24) (sT := 50) (ty := 3) (cap := n') Tryz.underlying24 hnew (hS.below (w' := (w.alloc (.cells #[.bool false, .slice none 0 0] 26)).alloc (.cells (madeCells #[.int .u32 0] n') 40)) ((Below.refl _ _).alloc (by simp; omega) _)) (by simp)
      rw [List.length_replicate, World.size_alloc] at hcpy
      obtain ⟨w1, hcp, hD, hb1, hz1⟩ := hcpy
      rw [World.size_alloc, World.size_alloc] at hz1
      have hd2 : List.drop n' (List.replicate n' 0) = [] := by simp
      rw [hd2, List.append_nil] at hD
      have hB1 : Below w.heap.size w w1 := Below.trans (by go_grown) (hb1.mono (by omega))
      have HD := Lib.hid hD
      have g0 : w1.cell? ⟨w.heap.size, 0, none⟩ = some (.bool false) := (hb1.cell (p := ⟨w.heap.size, 0, none⟩) (by simp)).trans (by simp)
      have g1 : w1.cell? ⟨w.heap.size, 1, none⟩ = some (.slice none 0 0) := (hb1.cell (p := ⟨w.heap.size, 1, none⟩) (by simp)).trans (by simp)
      have g2 : ∀ i, w1.frozen? ⟨w.heap.size, i, none⟩ = false := fun i => (hb1.frozen (p := ⟨w.heap.size, i, none⟩) (by simp)).trans (by simp)
      have hz : w.heap.size + 1 < w1.heap.size := by omega
      have HL := Lib.hid hlen
      clear hS hlen hnew hd2 hD hz1 hb1
      go_enter Tryz.func28, Tryz.ntmps28
      go_wp2_with (go_at_call 50; refine (trim_any _ _ _ _ _ _ hS0.out.1 hS0.out.2.1 hS0.out.2.2).mono ?_; rw [HN.out]; rintro e w' ⟨rfl, rfl⟩)
      have hE := ((HD.out.far (p := ⟨w.heap.size, 0, none⟩) (by simp) (.bool neg)).far (p := ⟨w.heap.size, 1, none⟩) (by simp) (.slice (some ⟨w.heap.size + 1, 0, none⟩) n' n'))
      have hsl := hE.sl (digs_canon v).1 (B := w.heap.size + 1 + 1) (by omega) (by have := HL.out; omega)
      rw [HL.out] at hsl
      have q0 := World.cell?_setCell_same' w1 ⟨w.heap.size, 0, none⟩ (.bool neg) (by rw [g0]; rfl)
      have q1 := World.cell?_setCell_same' (w1.setCell ⟨w.heap.size, 0, none⟩ (.bool neg)) ⟨w.heap.size, 1, none⟩ (.slice (some ⟨w.heap.size + 1, 0, none⟩) n' n') (by rw [World.cell?_setCell_other _ _ _ _ (by simp), g1]; rfl)
      refine bodyPost_ret (v := .tuple #[.agg #[.bool neg, .slice (some ⟨w.heap.size + 1, 0, none⟩) n' n'], .bool true]) ?_ rfl ⟨_, _, _, tuple_ret e2.out.1.symm e2.out.2.1.symm, by rw [e2.out.2.2]; exact hsl.more (by simp [World.setCell]; omega), by go_grown⟩
      simp [results, Tryz.f28, go_sem, q0, q1]
end Go.Proofs.YthnickjbknpmhaaGreatDoor
