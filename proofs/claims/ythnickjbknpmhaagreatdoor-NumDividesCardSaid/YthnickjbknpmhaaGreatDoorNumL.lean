/-
  copy of digits; the contract of up.
-/
import Derived.Test.YthnickjbknpmhaaGreatDoorNumK
import Derived.Laws.CopyOwn
namespace Go.Proofs.YthnickjbknpmhaaGreatDoor
open Go.RowKit Go.Shelf

theorem Tryz.sizeU32 : (Tryz.prog.info? 40).map (·.size) = some 1 := by kernel_rfl
theorem u32s_one (l : List Nat) : ∀ v ∈ u32s l, v.oneCell' = true := fun v hv => by
  unfold u32s at hv
  obtain ⟨d, _, rfl⟩ := List.mem_map.1 hv
  rfl
theorem copy_digits {W : World} {dT sT ty g n c B cap : Nat} {A : Option Addr} {l z : List Nat} (hu : Tryz.prog.underlying dT = some (.slice 40)) (hz : DBk W g 40 z) (h : Sl W B A n c l) (hn : n ≤ z.length) :
    ∃ w1, (Builtin.copy_ #[dT, sT] ty #[.slice (some ⟨g, 0, none⟩) z.length cap, .slice A n c]).run Tryz.prog W = .ok (.int .i64 (n : Nat)) w1 ∧ DBk w1 g 40 (l ++ z.drop n) ∧ Below g W w1 ∧ w1.heap.size = W.heap.size := by
  rcases Nat.eq_zero_or_pos n with h0 | h0
  · subst h0
    have hl : l = [] := List.eq_nil_of_length_eq_zero h.len
    subst hl
    exact ⟨W, run_copy_none W dT sT ty 40 _ A z.length cap 0 c hu Tryz.sizeU32 (Nat.min_eq_left (Nat.zero_le _)), by simpa using hz, Below.refl _ _, rfl⟩
  · obtain ⟨ad, rfl, hb, hc⟩ := h.1.1.2 h0
    have hl := h.len
    have hmin : (u32s l).length = Nat.min n z.length := by rw [u32s_length, hl]; exact (Nat.min_eq_left hn).symm
    have hr := run_copy_row (P := Tryz.prog) W dT sT ty 40 g 0 z.length cap ad n c (u32s z).toArray 40 (u32s l) hu Tryz.sizeU32 hz hmin hc (by simp [u32s_length]; omega) (u32s_one l)
    have e : (u32s l).length = n := by rw [u32s_length, hl]
    rw [e] at hr
    refine ⟨_, hr, ?_, below_setRow (Below.refl _ _) (Nat.le_refl _) _, by simp [World.setRow]⟩
    unfold DBk
    rw [setRow_heap W g _ _ _ _ hz]
    simp [u32s]

/-- The digit and the carry of a shift. -/
def upD (d by_ c : Nat) : Nat := d * 2 ^ by_ % 4294967296 + c
def upC (d by_ : Nat) : Nat := d * 2 ^ by_ / 4294967296
theorem up_spec {d s c : Nat} (hd : d < 4294967296) (hs : s ≤ 31) (hc : c < 2 ^ s) : upD d s c + 4294967296 * upC d s = d * 2 ^ s + c ∧ upD d s c < 4294967296 ∧ upC d s < 2 ^ s := by
  have hp : 2 ^ s * 2 ^ (32 - s) = 4294967296 := by rw [← Nat.pow_add, Nat.add_sub_cancel' (by omega)]
  have h1 : d * 2 ^ s % 4294967296 = 2 ^ s * (d % 2 ^ (32 - s)) := by
    rw [Nat.mul_comm d, ← hp, Nat.mul_mod_mul_left]
  have h2 : d % 2 ^ (32 - s) < 2 ^ (32 - s) := Nat.mod_lt _ (Nat.pow_pos (by omega))
  have h3 : 2 ^ s * (d % 2 ^ (32 - s) + 1) ≤ 2 ^ s * 2 ^ (32 - s) := Nat.mul_le_mul_left _ h2
  rw [hp, Nat.mul_add] at h3
  refine ⟨?_, ?_, ?_⟩
  · unfold upD upC
    have := Nat.div_add_mod (d * 2 ^ s) 4294967296
    omega
  · unfold upD; rw [h1]; omega
  · unfold upC
    rw [Nat.div_lt_iff_lt_mul (by omega), Nat.mul_comm]
    exact Nat.mul_lt_mul_of_pos_left hd (Nat.pow_pos (by omega))

theorem up_int {d s c : Nat} (hs : s ≤ 31) (hc : c < 2 ^ s) : bits BinOp.or IntKind.u32 ((d : Int) * 2 ^ s % 4294967296) (c : Nat) = ((upD d s c : Nat) : Int) ∧ (d : Int) / 2 ^ (32 - s) = ((upC d s : Nat) : Int) := by
  have hp : 2 ^ s * 2 ^ (32 - s) = 4294967296 := by rw [← Nat.pow_add, Nat.add_sub_cancel' (by omega)]
  have h1 : d * 2 ^ s % 4294967296 = 2 ^ s * (d % 2 ^ (32 - s)) := by
    rw [Nat.mul_comm d, ← hp, Nat.mul_mod_mul_left]
  have hc2 : c < 4294967296 := by
    have : 2 ^ s ≤ 2 ^ 31 := Nat.pow_le_pow_right (by omega) hs
    omega
  refine ⟨?_, ?_⟩
  · have e : (d : Int) * 2 ^ s % 4294967296 = ((d * 2 ^ s % 4294967296 : Nat) : Int) := by simp
    rw [e, bor32 _ _ (Nat.mod_lt _ (by omega)) hc2]
    unfold upD
    have := Nat.shiftLeft_add_eq_or_of_lt hc (d % 2 ^ (32 - s))
    rw [Nat.shiftLeft_eq, Nat.mul_comm _ (2 ^ s)] at this
    rw [h1, this]
  · have e : (d : Int) / 2 ^ (32 - s) = ((d / 2 ^ (32 - s) : Nat) : Int) := by simp
    rw [e]
    unfold upC
    rw [Nat.mul_comm d, ← hp, Nat.mul_div_mul_left _ _ (Nat.pow_pos (by omega))]
theorem up_step {O L c P P' d x y S : Nat} (hp : P' = P * 4294967296) (h : O + P * c = L * S) (hd : x + 4294967296 * y = d * S + c) : O + P * x + P' * y = (L + P * d) * S := by
  have e : P * (x + 4294967296 * y) = P * (d * S + c) := by rw [hd]
  simp only [Nat.mul_add, Nat.add_mul, ← Nat.mul_assoc] at e ⊢
  subst hp
  omega

/-- After j rounds of up. -/
def UpI (src : List Nat) (N s j c : Nat) (o : List Nat) : Prop :=
  o.length = N ∧ Dig o ∧ c < 2 ^ s ∧ nval (o.take j) + 4294967296 ^ j * c = nval (src.take j) * 2 ^ s ∧ ∀ k, j ≤ k → dg o k = dg src k
theorem upI_step {src o : List Nat} {N s j c : Nat} (h : UpI src N s j c o) (hs : s ≤ 31) (hj : j < N) : UpI src N s (j + 1) (upC (dg src j) s) (o.set j (upD (dg src j) s c)) := by
  obtain ⟨h1, h2, h3, h4, h5⟩ := h
  have hd : dg src j < 4294967296 := by rw [← h5 j (Nat.le_refl _)]; exact dg_lt h2 j
  have sp := up_spec hd hs h3
  refine ⟨by simpa using h1, dig_set h2 sp.2.1, sp.2.2, ?_, fun k hk => by rw [dg_set_ne (by omega)]; exact h5 k (by omega)⟩
  rw [nval_take_dg src, nval_set_take _ _ _ (by omega)]
  exact up_step (Nat.pow_succ ..) h4 sp.1
theorem upI_end {src o : List Nat} {N s c : Nat} (h : UpI src N s N c o) (hl : src.length = N) (hv : nval src * 2 ^ s < 4294967296 ^ N) : nval o = nval src * 2 ^ s := by
  obtain ⟨h1, h2, h3, h4, h5⟩ := h
  rw [List.take_of_length_le (by omega), List.take_of_length_le (by omega)] at h4
  rcases Nat.eq_zero_or_pos c with h0 | h0
  · subst h0; simpa using h4
  · have : 4294967296 ^ N * 1 ≤ 4294967296 ^ N * c := Nat.mul_le_mul_left _ h0
    omega

/-- What up returns: a new block of N digits. -/
def RetUp (N v : Nat) (w : World) (e : Ending) (w' : World) : Prop :=
  ∃ o : List Nat, e = .returned (.slice (some ⟨w.heap.size, 0, none⟩) N N) ∧ DBk w' w.heap.size 40 o ∧ o.length = N ∧ Dig o ∧ nval o = v ∧ Below w.heap.size w w' ∧ w'.heap.size = w.heap.size + 1

set_option maxRecDepth 100000 in
set_option maxHeartbeats 1000000 in
theorem up_any (A : Option Addr) (n c B s N : Nat) (l : List Nat) (w : World) (h : Sl w B A n c l) (hB : B ≤ w.heap.size) (hN : N ≤ 2000) (hn : n ≤ N) (hs : s ≤ 31) (hv : nval l * 2 ^ s < 4294967296 ^ N) :
    Calls Tryz.prog 52 #[.slice A n c, .int .i64 s, .int .i64 N] w (RetUp N (nval l * 2 ^ s) w) := by
  have hmk := run_make_mag N (by omega)
  have hnew := DBk.new w 40 N
  have hcpy := copy_digits (dT := 50) (sT := 50) (ty := 3) (cap := N) Tryz.underlying50 hnew (h.below (w' := w.alloc (.cells (madeCells #[.int .u32 0] N) 40)) ((Below.refl _ _).alloc hB _)) (by simpa using hn)
  rw [List.length_replicate] at hcpy
  obtain ⟨w1, hcp, hD, hb1, hz1⟩ := hcpy
  rw [World.size_alloc] at hz1
  have hB1 : Below w.heap.size w w1 := Below.trans (by go_grown) hb1
  have HZ := Lib.hid hz1
  have HL := Lib.hid h.len
  have hdl := h.dig
  have HS : Hid ((l ++ (List.replicate N 0).drop n).length = N ∧ Dig (l ++ (List.replicate N 0).drop n) ∧ nval (l ++ (List.replicate N 0).drop n) = nval l) := by
    refine ⟨by simp [h.len]; omega, dig_append.2 ⟨hdl, dig_drop (dig_zeros _) _⟩, ?_⟩
    rw [nval_append, List.drop_replicate, nval_zeros]; simp
  obtain ⟨src, hsrc⟩ : ∃ src, src = l ++ (List.replicate N 0).drop n := ⟨_, rfl⟩
  rw [← hsrc] at HS hD
  clear hz1 hnew h hsrc hb1
  go_enter Tryz.func52, Tryz.ntmps52
  go_wp2
  clear hcp hmk
  go_loopw [8, 18] (fun cy k wr => ∃ (j c : Nat) (o : List Nat), j ≤ N ∧ cy = .int .u32 c ∧ k = .int .i64 j ∧ Hid (UpI src N s j c o) ∧ DBk wr w.heap.size 40 o ∧ Below w.heap.size w wr ∧ Hid (wr.heap.size = w.heap.size + 1)) (fun _ k _ => N - (intOf k).toNat)
  case atStart => exact ⟨0, 0, src, by omega, rfl, rfl, ⟨HS.out.1, HS.out.2.1, Nat.pow_pos (by omega), by simp [nval], fun _ _ => rfl⟩, hD, hB1, HZ⟩
  case round =>
    obtain ⟨j, c, o, hj, rfl, rfl, hI, hO, hBw, hZ⟩ := hrel
    by_cases hlt : j < N
    · have e1 := hO.cell (k := j) (by rw [hI.out.1]; exact hlt)
      have f1 := hO.frozen j
      have hz := hO.lt
      rw [hI.out.2.2.2.2 j (Nat.le_refl _)] at e1
      have hd := dg_lt HS.out.2.1 j
      have E := Lib.hid (up_int (d := dg src j) hs hI.out.2.2.1)
      have hN2 := Lib.hid (upI_step hI.out hs hlt)
      have hO2 := hO.set j (upD (dg src j) s c)
      have hZ2 : Hid ((wr.setCell ⟨w.heap.size, j, none⟩ (.int .u32 (upD (dg src j) s c : Nat))).heap.size = w.heap.size + 1) := by
        unfold Hid; rw [← hZ.out]; simp [World.setCell]
      clear hI hO hZ
      go_wp2
      rw [E.out.1, E.out.2]
      clear E
      go_roundw
      case rel => exact ⟨j + 1, _, _, by omega, rfl, by go_num, hN2, hO2, by go_grown, hZ2⟩
      case measure => simp [intOf]; omega
    · obtain rfl : j = N := by omega
      have hv2 : Hid (nval o = nval l * 2 ^ s) := by
        have := upI_end hI.out HS.out.1 (by rw [HS.out.2.2]; exact hv)
        rw [HS.out.2.2] at this
        exact this
      go_wp2
      go_ret
      exact ⟨o, rfl, hO, hI.out.1, hI.out.2.1, hv2.out, hBw, hZ.out⟩
end Go.Proofs.YthnickjbknpmhaaGreatDoor
