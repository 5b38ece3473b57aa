/-
  Long division: plain facts.
-/
import Derived.Test.YthnickjbknpmhaaGreatDoorNumN
namespace Go.Proofs.YthnickjbknpmhaaGreatDoor
open Go.RowKit Go.Shelf

/-- After the digits of the quotient from j on: u is what is left. -/
def OvG (U V j : Nat) (uo qo : List Nat) : Prop := U = nval uo + 4294967296 ^ j * nval (qo.drop j) * V ∧ nval (uo.drop j) < V
theorem ov_alg {U p X P P' S S' g Q V : Nat} (hp : P' = P * 4294967296) (h : U = p + P * S + P' * Q * V) (hs : S = S' + g * V) (hx : X = p + P * S') : U = X + P * (g + 4294967296 * Q) * V := by
  subst hp hs hx
  rw [h, Nat.mul_add P g, Nat.add_mul, Nat.mul_add P S', ← Nat.mul_assoc P g, ← Nat.mul_assoc P 4294967296]
  omega
theorem mul_lt_lim {a V x : Nat} (ha : a < 4294967296) (hx : x < V) : a + 4294967296 * x < V * 4294967296 := by
  have : 4294967296 * (x + 1) ≤ 4294967296 * V := Nat.mul_le_mul_left _ hx
  omega
theorem ovG_step {U V k n g : Nat} {uo qo p seg seg' s : List Nat} (h : OvG U V (k + 1) uo qo) (he : uo = p ++ seg ++ s) (hp : p.length = k) (hl : seg.length = n + 1) (hl' : seg'.length = n + 1) (hV : V < 4294967296 ^ n) (hd : Dig uo) (hq : k < qo.length)
    (h1 : nval seg = nval seg' + g * V) (h2 : nval seg < V * 4294967296 → nval seg' < V) : OvG U V k (p ++ seg' ++ s) (qo.set k g) := by
  obtain ⟨a1, a2⟩ := h
  have hdrop : uo.drop k = seg ++ s := by rw [he, List.append_assoc, ← hp, List.drop_left]
  have hz : nval s = 0 := by
    have e : uo.drop (k + 1) = seg.drop 1 ++ s := by
      rw [← List.drop_drop, hdrop, List.drop_append_of_le_length (by omega)]
    rw [e, nval_append, List.length_drop, hl] at a2
    simp only [Nat.add_sub_cancel] at a2
    rcases Nat.eq_zero_or_pos (nval s) with h0 | h0
    · exact h0
    · have : 4294967296 ^ n * 1 ≤ 4294967296 ^ n * nval s := Nat.mul_le_mul_left _ h0
      omega
  have hseg : nval (uo.drop k) = nval seg := by rw [hdrop, nval_append, hz]; simp
  have hlt : nval seg < V * 4294967296 := by
    rw [← hseg, nval_drop]; exact mul_lt_lim (dg_lt hd k) a2
  have hdrop' : (p ++ seg' ++ s).drop k = seg' ++ s := by rw [List.append_assoc, ← hp, List.drop_left]
  refine ⟨?_, ?_⟩
  · rw [nval_set_drop _ _ _ hq]
    have e1 : nval uo = nval p + 4294967296 ^ k * nval seg := by rw [he, List.append_assoc, nval_append, nval_append, hz, hp]; simp
    have e2 : nval (p ++ seg' ++ s) = nval p + 4294967296 ^ k * nval seg' := by rw [List.append_assoc, nval_append, nval_append, hz, hp]; simp
    rw [e1] at a1
    exact ov_alg (Nat.pow_succ ..) a1 h1 e2
  · rw [hdrop', nval_append, hz]
    simpa using h2 hlt
theorem ovG_start {l v0 m J s : Nat} {u0 qo : List Nat} (hl : l < 4294967296 ^ (J + m)) (hv : 4294967296 ^ m ≤ v0) (hu : nval u0 = l * 2 ^ s) (hJ : J ≤ u0.length) (hq : qo.length = J) : OvG (l * 2 ^ s) (v0 * 2 ^ s) J u0 qo := by
  refine ⟨by rw [List.drop_of_length_le (by omega), hu]; simp [nval], ?_⟩
  have h1 := nval_parts u0 hJ
  have h2 : l * 2 ^ s < 4294967296 ^ (J + m) * 2 ^ s := Nat.mul_lt_mul_of_pos_right hl (Nat.pow_pos (by omega))
  have h3 : 4294967296 ^ J * (4294967296 ^ m * 2 ^ s) ≤ 4294967296 ^ J * (v0 * 2 ^ s) := Nat.mul_le_mul_left _ (Nat.mul_le_mul_right _ hv)
  rw [Nat.pow_add, Nat.mul_assoc] at h2
  refine Nat.lt_of_mul_lt_mul_left (a := 4294967296 ^ J) ?_
  omega
theorem ovG_end {l v0 s : Nat} {uo qo : List Nat} (h : OvG (l * 2 ^ s) (v0 * 2 ^ s) 0 uo qo) : nval qo = l / v0 ∧ nval uo = l % v0 * 2 ^ s := by
  obtain ⟨a1, a2⟩ := h
  simp only [Nat.pow_zero, Nat.one_mul, List.drop_zero] at a1 a2
  have hp : 0 < 2 ^ s := Nat.pow_pos (by omega)
  constructor
  · rw [← Nat.mul_div_mul_right l v0 hp, a1, Nat.add_mul_div_right _ _ (by omega), Nat.div_eq_of_lt a2, Nat.zero_add]
  · rw [← Nat.mul_mod_mul_right, a1, Nat.add_mul_mod_self_right, Nat.mod_eq_of_lt a2]

/-- A digit of the rest, shifted back. -/
def rsD (a b s : Nat) : Nat := a / 2 ^ s + b % 2 ^ s * 2 ^ (32 - s)
theorem rs_spec {a b s : Nat} (ha : a < 4294967296) (hs : s ≤ 31) : rsD a b s * 2 ^ s + a % 2 ^ s = a + 4294967296 * (b % 2 ^ s) ∧ rsD a b s < 4294967296 := by
  have hp : 2 ^ s * 2 ^ (32 - s) = 4294967296 := by rw [← Nat.pow_add, Nat.add_sub_cancel' (by omega)]
  have h0 : 0 < 2 ^ s := Nat.pow_pos (by omega)
  have h1 : b % 2 ^ s < 2 ^ s := Nat.mod_lt _ h0
  have h2 : a / 2 ^ s < 2 ^ (32 - s) := by rw [Nat.div_lt_iff_lt_mul h0, Nat.mul_comm, hp]; exact ha
  have h3 : (b % 2 ^ s + 1) * 2 ^ (32 - s) ≤ 2 ^ s * 2 ^ (32 - s) := Nat.mul_le_mul_right _ h1
  rw [hp, Nat.add_mul] at h3
  refine ⟨?_, by unfold rsD; omega⟩
  unfold rsD
  have e := Nat.div_add_mod a (2 ^ s)
  rw [Nat.add_mul, Nat.mul_assoc (b % 2 ^ s), Nat.mul_comm (2 ^ (32 - s)), hp, Nat.mul_comm (a / 2 ^ s), Nat.mul_comm (b % 2 ^ s)]
  omega
theorem rs_int {a b s : Nat} (ha : a < 4294967296) (hs : s ≤ 31) : bits BinOp.or IntKind.u32 ((a : Int) / 2 ^ s) ((b : Int) * 2 ^ (32 - s) % 4294967296) = ((rsD a b s : Nat) : Int) := by
  have hp : 2 ^ s * 2 ^ (32 - s) = 4294967296 := by rw [← Nat.pow_add, Nat.add_sub_cancel' (by omega)]
  have h0 : 0 < 2 ^ s := Nat.pow_pos (by omega)
  have h2 : a / 2 ^ s < 2 ^ (32 - s) := by rw [Nat.div_lt_iff_lt_mul h0, Nat.mul_comm, hp]; exact ha
  have e1 : (a : Int) / 2 ^ s = ((a / 2 ^ s : Nat) : Int) := by simp
  have e2 : (b : Int) * 2 ^ (32 - s) % 4294967296 = ((b * 2 ^ (32 - s) % 4294967296 : Nat) : Int) := by simp
  have e3 : b * 2 ^ (32 - s) % 4294967296 = b % 2 ^ s * 2 ^ (32 - s) := by rw [← hp, Nat.mul_mod_mul_right]
  have h4 : a / 2 ^ s < 4294967296 := Nat.lt_of_le_of_lt (Nat.div_le_self _ _) ha
  rw [e1, e2, bor32 _ _ h4 (Nat.mod_lt _ (by omega)), e3, Nat.or_comm]
  have := Nat.shiftLeft_add_eq_or_of_lt h2 (b % 2 ^ s)
  rw [Nat.shiftLeft_eq] at this
  rw [← this]
  unfold rsD
  rw [Nat.add_comm]
theorem rs_alg {R S e U P P' a r x y : Nat} (hp : P' = P * 4294967296) (h : R * S + e = U + P * x) (hr : r * S + x = a + 4294967296 * y) : (R + P * r) * S + e = U + P * a + P' * y := by
  have h2 : P * (r * S + x) = P * (a + 4294967296 * y) := by rw [hr]
  simp only [Nat.mul_add, Nat.add_mul, ← Nat.mul_assoc] at h2 ⊢
  subst hp
  omega
/-- After j digits of the rest. -/
def RsI (u : List Nat) (n s j : Nat) (r : List Nat) : Prop := r.length = n ∧ Dig r ∧ nval (r.take j) * 2 ^ s + dg u 0 % 2 ^ s = nval (u.take j) + 4294967296 ^ j * (dg u j % 2 ^ s)
theorem rsI_start {u : List Nat} {n s : Nat} : RsI u n s 0 (List.replicate n 0) := ⟨by simp, dig_zeros n, by simp [nval]⟩
theorem rsI_step {u r : List Nat} {n s j : Nat} (h : RsI u n s j r) (hd : Dig u) (hs : s ≤ 31) (hj : j < n) : RsI u n s (j + 1) (r.set j (rsD (dg u j) (dg u (j + 1)) s)) := by
  obtain ⟨h1, h2, h3⟩ := h
  have sp := rs_spec (b := dg u (j + 1)) (dg_lt hd j) hs
  refine ⟨by simpa using h1, dig_set h2 sp.2, ?_⟩
  rw [nval_take_dg u, nval_set_take _ _ _ (by omega)]
  exact rs_alg (Nat.pow_succ ..) h3 sp.1
theorem rsI_end {u r : List Nat} {n s R : Nat} (h : RsI u n s n r) (hu : n < u.length) (hv : nval u = R * 2 ^ s) (hlt : nval u < 4294967296 ^ n) : nval r = R := by
  obtain ⟨h1, h2, h3⟩ := h
  have hp : 0 < 2 ^ s := Nat.pow_pos (by omega)
  have e := nval_parts u (Nat.le_of_lt hu)
  have hz : nval (u.drop n) = 0 := by
    rcases Nat.eq_zero_or_pos (nval (u.drop n)) with h0 | h0
    · exact h0
    · have : 4294967296 ^ n * 1 ≤ 4294967296 ^ n * nval (u.drop n) := Nat.mul_le_mul_left _ h0
      omega
  have hd0 : dg u n = 0 := by have := nval_drop u n; omega
  rw [hz, Nat.mul_zero, Nat.add_zero] at e
  rw [hd0, Nat.zero_mod, Nat.mul_zero, Nat.add_zero, ← e, hv, List.take_of_length_le (by omega)] at h3
  have hm : dg u 0 % 2 ^ s < 2 ^ s := Nat.mod_lt _ hp
  have h4 : (nval r * 2 ^ s + dg u 0 % 2 ^ s) / 2 ^ s = R := by rw [h3, Nat.mul_div_cancel _ hp]
  rw [Nat.add_comm, Nat.add_mul_div_right _ _ hp, Nat.div_eq_of_lt hm, Nat.zero_add] at h4
  exact h4

/-- The shift that puts the top bit on top. -/
theorem shift_fits {v : List Nat} {m t s : Nat} (hv : v.length = m + 1) (dv : Dig v) (ht : dg v m < 2 ^ t) (hs : s + t = 32) : nval v * 2 ^ s < 4294967296 ^ (m + 1) := by
  have e := nval_take_dg v m
  rw [List.take_of_length_le (by omega)] at e
  have h1 := nval_lt (dig_take dv m)
  rw [List.length_take, Nat.min_eq_left (by omega)] at h1
  have h2 : 4294967296 ^ m * (dg v m + 1) ≤ 4294967296 ^ m * 2 ^ t := Nat.mul_le_mul_left _ ht
  rw [Nat.mul_add] at h2
  have h3 : nval v < 4294967296 ^ m * 2 ^ t := by omega
  have h4 : nval v * 2 ^ s < 4294967296 ^ m * 2 ^ t * 2 ^ s := Nat.mul_lt_mul_of_pos_right h3 (Nat.pow_pos (by omega))
  rw [Nat.mul_assoc, ← Nat.pow_add, Nat.add_comm t s, hs] at h4
  rw [Nat.pow_succ]
  exact h4
theorem shift_up {l : List Nat} {N s : Nat} (hl : l.length = N) (dl : Dig l) (hs : s ≤ 31) : nval l * 2 ^ s < 4294967296 ^ (N + 1) := by
  have h1 := nval_lt dl
  rw [hl] at h1
  have h2 : 2 ^ s ≤ 2 ^ 31 := Nat.pow_le_pow_right (by omega) hs
  rw [Nat.pow_succ]
  exact Nat.lt_of_lt_of_le (Nat.mul_lt_mul_of_pos_right h1 (Nat.pow_pos (by omega))) (Nat.mul_le_mul_left _ (by omega))
end Go.Proofs.YthnickjbknpmhaaGreatDoor
