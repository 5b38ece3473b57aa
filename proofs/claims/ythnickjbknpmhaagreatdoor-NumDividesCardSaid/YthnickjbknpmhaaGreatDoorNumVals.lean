/-
  The contracts of the operations, said of numbers: sign and absolute value.
-/
import Derived.Test.YthnickjbknpmhaaGreatDoorNumMade
import Derived.Test.YthnickjbknpmhaaGreatDoorNumSame
namespace Go.Proofs.YthnickjbknpmhaaGreatDoor
open Go.RowKit Go.Shelf

/-- A right number: no negative zero, and it fits. -/
def Rt (neg : Bool) (v : Nat) : Prop := (v = 0 → neg = false) ∧ v < big
/-- A Num is returned, or one and a bool. -/
def NR (neg : Bool) (v : Nat) (w : World) (e : Ending) (w' : World) : Prop := ∃ A n c, e = .returned (.agg #[.bool neg, .slice A n c]) ∧ Sl w' w'.heap.size A n c (digs v) ∧ Below w.heap.size w w'
def NR2 (neg : Bool) (v : Nat) (ok : Bool) (w : World) (e : Ending) (w' : World) : Prop := ∃ A n c, e = .returned (.tuple #[.agg #[.bool neg, .slice A n c], .bool ok]) ∧ Sl w' w'.heap.size A n c (digs v) ∧ Below w.heap.size w w'
def NR3 (neg : Bool) (v : Nat) (neg2 : Bool) (v2 : Nat) (ok : Bool) (w : World) (e : Ending) (w' : World) : Prop :=
  ∃ A n c A2 n2 c2, e = .returned (.tuple #[.agg #[.bool neg, .slice A n c], .agg #[.bool neg2, .slice A2 n2 c2], .bool ok]) ∧ Sl w' w'.heap.size A n c (digs v) ∧ Sl w' w'.heap.size A2 n2 c2 (digs v2) ∧ Below w.heap.size w w'

section
variable {neg neg2 neg3 neg4 : Bool} {v v2 v3 v4 : Nat}
theorem Rt.sgn_neg (r : Rt neg v) : decide (sgn neg v < 0) = neg := by
  rw [Go.Proofs.YthnickjbknpmhaaGreatDoor.sgn_neg]
  cases neg with
  | false => rfl
  | true =>
    have : v ≠ 0 := fun h => by have := r.1 h; cases this
    simp [this]
theorem Rt.right (r : Rt neg v) : rightB neg (digs v) = true := by
  have h := right_digs (x := sgn neg v) (by rw [sgn_abs]; exact r.2)
  rwa [r.sgn_neg, sgn_abs] at h
theorem Rt.fit (r : Rt neg v) : fitO (sgn neg v) = some (sgn neg v) := by unfold fitO; rw [if_pos (by rw [sgn_abs]; exact r.2)]
theorem Rt.small {v : Nat} (h : v ≤ 18446744073709551616) : Rt false v := ⟨fun _ => rfl, Nat.lt_of_le_of_lt h (by unfold big; exact Nat.lt_of_lt_of_le (m := 4294967296 ^ 3) (by decide) (Nat.pow_le_pow_right (by decide) (by decide)))⟩
theorem Rt.smallN {v : Nat} (h0 : 0 < v) (h : v ≤ 18446744073709551616) : Rt true v := ⟨fun e => by omega, (Rt.small h).2⟩
theorem Rt.of (x : Int) (h : x.natAbs < big) : Rt (decide (x < 0)) x.natAbs := ⟨fun e => by simp; omega, h⟩
theorem Rt.zero : Rt false 0 := Rt.small (by omega)
theorem Rt.abs (r : Rt neg v) : Rt false v := ⟨fun _ => rfl, r.2⟩
theorem sgn_inj (r : Rt neg v) (r2 : Rt neg2 v2) (h : sgn neg v = sgn neg2 v2) : neg = neg2 ∧ v = v2 := by
  have h1 := congrArg Int.natAbs h
  rw [sgn_abs, sgn_abs] at h1
  exact ⟨by rw [← r.sgn_neg, ← r2.sgn_neg, h], h1⟩

theorem nr2_of {x : Int} {w w' : World} {e : Ending} (r3 : Rt neg3 v3) (hx : x = sgn neg3 v3) (h : RetN (fitO x) w e w') : NR2 neg3 v3 true w e w' := by
  subst hx
  rw [r3.fit] at h
  obtain ⟨A, n, c, he, hs, hb⟩ := retN_some h
  rw [r3.sgn_neg] at he
  rw [sgn_abs] at hs
  exact ⟨A, n, c, he, hs, hb⟩

variable {A A2 : Option Addr} {n n2 c c2 : Nat} {W : World}
theorem add_v (r1 : Rt neg v) (r2 : Rt neg2 v2) (r3 : Rt neg3 v3) (he : sgn neg v + sgn neg2 v2 = sgn neg3 v3) (h : Sl W W.heap.size A n c (digs v)) (h2 : Sl W W.heap.size A2 n2 c2 (digs v2)) :
    Calls Tryz.prog 34 #[.agg #[.bool neg, .slice A n c], .agg #[.bool neg2, .slice A2 n2 c2]] W (NR2 neg3 v3 true W) := by
  refine (add_any neg neg2 h h2 (Nat.le_refl _)).mono fun e w' hr => nr2_of r3 he ?_
  have e1 : sumS neg (digs v) neg2 (digs v2) neg2 = fitO (sgn neg v + sgn neg2 v2) := by unfold sumS; rw [if_pos ⟨r1.right, r2.right⟩, nval_digs, nval_digs]
  rwa [← e1]
theorem sub_v (r1 : Rt neg v) (r2 : Rt neg2 v2) (r3 : Rt neg3 v3) (he : sgn neg v - sgn neg2 v2 = sgn neg3 v3) (h : Sl W W.heap.size A n c (digs v)) (h2 : Sl W W.heap.size A2 n2 c2 (digs v2)) :
    Calls Tryz.prog 16 #[.agg #[.bool neg, .slice A n c], .agg #[.bool neg2, .slice A2 n2 c2]] W (NR2 neg3 v3 true W) := by
  refine (sub_any neg neg2 h h2 (Nat.le_refl _)).mono fun e w' hr => nr2_of r3 he ?_
  have e1 : sumS neg (digs v) neg2 (digs v2) (!neg2) = fitO (sgn neg v - sgn neg2 v2) := by
    unfold sumS; rw [if_pos ⟨r1.right, r2.right⟩, nval_digs, nval_digs]
    congr 1
    cases neg2 <;> simp [sgn] <;> omega
  rwa [← e1]
theorem mul_v (r1 : Rt neg v) (r2 : Rt neg2 v2) (r3 : Rt neg3 v3) (he : sgn neg v * sgn neg2 v2 = sgn neg3 v3) (h : Sl W W.heap.size A n c (digs v)) (h2 : Sl W W.heap.size A2 n2 c2 (digs v2)) :
    Calls Tryz.prog 15 #[.agg #[.bool neg, .slice A n c], .agg #[.bool neg2, .slice A2 n2 c2]] W (NR2 neg3 v3 true W) := by
  refine (mul_any neg neg2 h h2 (Nat.le_refl _)).mono fun e w' hr => nr2_of r3 he ?_
  have e1 : mulS neg (digs v) neg2 (digs v2) = fitO (sgn neg v * sgn neg2 v2) := by unfold mulS; rw [if_pos ⟨r1.right, r2.right⟩, nval_digs, nval_digs]
  rwa [← e1]
theorem gcd_v (r1 : Rt neg v) (r2 : Rt neg2 v2) (r3 : Rt false v3) (he : Nat.gcd v v2 = v3) (h : Sl W W.heap.size A n c (digs v)) (h2 : Sl W W.heap.size A2 n2 c2 (digs v2)) :
    Calls Tryz.prog 11 #[.agg #[.bool neg, .slice A n c], .agg #[.bool neg2, .slice A2 n2 c2]] W (NR2 false v3 true W) := by
  refine (gcd_any neg neg2 h h2 (Nat.le_refl _)).mono fun e w' hr => nr2_of (x := (v3 : Int)) r3 rfl ?_
  have e1 : gcdS neg (digs v) neg2 (digs v2) = fitO ((v3 : Nat) : Int) := by unfold gcdS; rw [if_pos ⟨r1.right, r2.right⟩, nval_digs, nval_digs, he]
  rwa [← e1]
theorem div_v (r1 : Rt neg v) (r2 : Rt neg2 v2) (r3 : Rt neg3 v3) (r4 : Rt neg4 v4) (h0 : v2 ≠ 0) (he : sgn neg v / sgn neg2 v2 = sgn neg3 v3) (hm : sgn neg v % sgn neg2 v2 = sgn neg4 v4) (h : Sl W W.heap.size A n c (digs v)) (h2 : Sl W W.heap.size A2 n2 c2 (digs v2)) :
    Calls Tryz.prog 9 #[.agg #[.bool neg, .slice A n c], .agg #[.bool neg2, .slice A2 n2 c2]] W (NR3 neg3 v3 neg4 v4 true W) := by
  refine (div_any neg neg2 h h2 (Nat.le_refl _)).mono fun e w' hr => ?_
  have e1 : divS neg (digs v) neg2 (digs v2) = some (sgn neg3 v3, sgn neg4 v4) := by
    unfold divS; rw [if_pos ⟨r1.right, r2.right, fun e => h0 (digs_nil.1 e)⟩, nval_digs, nval_digs, he, hm]
  rw [e1] at hr
  obtain ⟨A, n, c, A2, n2, c2, he, hs, hs2, hb⟩ := hr
  rw [show dqO (some (sgn neg3 v3, sgn neg4 v4)) = sgn neg3 v3 from rfl, show drO (some (sgn neg3 v3, sgn neg4 v4)) = sgn neg4 v4 from rfl] at *
  rw [r3.sgn_neg, r4.sgn_neg] at he
  rw [sgn_abs] at hs hs2
  exact ⟨A, n, c, A2, n2, c2, he, hs, hs2, hb⟩
theorem div_0 (h : Sl W W.heap.size A n c (digs v)) (h2 : Sl W W.heap.size A2 n2 c2 (digs 0)) :
    Calls Tryz.prog 9 #[.agg #[.bool neg, .slice A n c], .agg #[.bool false, .slice A2 n2 c2]] W (NR3 false 0 false 0 false W) := by
  refine (div_any neg false h h2 (Nat.le_refl _)).mono fun e w' hr => ?_
  have e1 : divS neg (digs v) false (digs 0) = none := by unfold divS; rw [if_neg (by rw [digs_zero]; simp)]
  rw [e1] at hr
  exact hr
theorem cmp_v (r1 : Rt neg v) (r2 : Rt neg2 v2) {o : Int} (ho : cmpI (sgn neg v) (sgn neg2 v2) = o) (h : Sl W W.heap.size A n c (digs v)) (h2 : Sl W W.heap.size A2 n2 c2 (digs v2)) :
    Calls Tryz.prog 39 #[.agg #[.bool neg, .slice A n c], .agg #[.bool neg2, .slice A2 n2 c2]] W fun e w' => e = .returned (.int .i64 o) ∧ Below W.heap.size W w' := by
  have := cmp_any neg neg2 h h2 (Nat.le_refl _)
  have e1 : cmpS neg (digs v) neg2 (digs v2) = o := by unfold cmpS; rw [if_pos ⟨r1.right, r2.right⟩, nval_digs, nval_digs, ho]
  rwa [e1] at this
theorem int_v (r1 : Rt neg v) {o : Option Int} (ho : fit64 (sgn neg v) = o) (h : Sl W W.heap.size A n c (digs v)) :
    Calls Tryz.prog 21 #[.agg #[.bool neg, .slice A n c]] W (RetI o W) := by
  have := int_any neg h (Nat.le_refl _)
  have e1 : intS neg (digs v) = o := by
    unfold intS
    by_cases h2 : (digs v).length ≤ 2
    · rw [if_pos ⟨r1.right, h2⟩, nval_digs, ho]
    · rw [if_neg (fun h => h2 h.2), ← ho]
      unfold fit64
      rw [if_neg]
      intro h3
      have h4 : v < 4294967296 ^ 2 := by
        have := sgn_abs neg v
        omega
      exact h2 (by
        have := canon_len_le (digs_canon v) (b := [0, 0, 1]) (by intro d hd; simp at hd; omega) (by rw [nval_digs, show nval [0, 0, 1] = 18446744073709551616 from rfl]; omega)
        rcases Nat.lt_or_ge 2 (digs v).length with h5 | h5
        · have h6 := canon_ge (digs_canon v) (by rintro e; rw [e] at h5; simp at h5)
          have h7 : 4294967296 ^ 2 ≤ 4294967296 ^ ((digs v).length - 1) := Nat.pow_le_pow_right (by decide) (by omega)
          rw [nval_digs] at h6
          exact absurd (Nat.lt_of_lt_of_le h4 (Nat.le_trans h7 h6)) (Nat.lt_irrefl _)
        · exact h5)
  rwa [e1] at this
theorem of_v (r1 : Rt neg v) {x : Int} (hx : x = sgn neg v) (h0 : -9223372036854775808 ≤ x) (h1 : x < 9223372036854775808) :
    Calls Tryz.prog 17 #[.int .i64 x] W (NR neg v W) := by
  refine (of_any x W h0 h1).mono fun e w' hr => ?_
  obtain ⟨A, n, c, he, hs, hb⟩ := hr
  rw [hx, r1.sgn_neg] at he
  rw [hx, sgn_abs] at hs
  exact ⟨A, n, c, he, hs, hb⟩
theorem text_v (r1 : Rt neg v) {t : List UInt8} (ht : Lib.itoa (sgn neg v) = t) {B : Nat} (hB : B ≤ W.heap.size) (hT : PowT B W) (h : Sl W W.heap.size A n c (digs v)) :
    Calls Tryz.prog 22 #[.agg #[.bool neg, .slice A n c]] W fun e w' => e = .returned (.string ⟨t.toArray⟩) ∧ Below W.heap.size W w' := by
  have := text_any neg h (Nat.le_refl _) (hT.mono hB)
  have e1 : textS neg (digs v) = t := by unfold textS; rw [if_pos r1.right, nval_digs, ht]
  rwa [e1] at this
theorem parse_v {s : List UInt8} (r3 : Rt neg3 v3) (hs : parseS s = some (sgn neg3 v3)) {B : Nat} (hB : B ≤ W.heap.size) (hT : PowT B W) (hS : SynT B W) :
    Calls Tryz.prog 20 #[.string ⟨s.toArray⟩] W (NR2 neg3 v3 true W) := by
  refine (parse_any s W hB hT hS).mono fun e w' hr => nr2_of r3 rfl ?_
  rwa [hs, ← r3.fit] at hr
theorem parse_0 {s : List UInt8} (hs : parseS s = none) {B : Nat} (hB : B ≤ W.heap.size) (hT : PowT B W) (hS : SynT B W) :
    Calls Tryz.prog 20 #[.string ⟨s.toArray⟩] W (NR2 false 0 false W) := by
  refine (parse_any s W hB hT hS).mono fun e w' hr => ?_
  rw [hs] at hr
  exact hr
theorem same_v (r1 : Rt neg v) (r2 : Rt neg2 v2) {b : Bool} (hb : decide (sgn neg v = sgn neg2 v2) = b) (h : Sl W W.heap.size A n c (digs v)) (h2 : Sl W W.heap.size A2 n2 c2 (digs v2)) :
    Calls Tryz.prog 13 #[.agg #[.bool neg, .slice A n c], .agg #[.bool neg2, .slice A2 n2 c2]] W fun e w' => e = .returned (.bool b) ∧ Below W.heap.size W w' := by
  have := same_any neg neg2 h h2 (Nat.le_refl _)
  have e1 : sameB neg (digs v) neg2 (digs v2) = b := by
    rw [← hb]
    unfold sameB
    refine decide_eq_decide.2 ⟨?_, fun h => ?_⟩
    · rintro ⟨rfl, h⟩
      rw [← nval_digs v, h, nval_digs]
    · obtain ⟨rfl, rfl⟩ := sgn_inj r1 r2 h
      exact ⟨rfl, rfl⟩
  rwa [e1] at this
theorem right_v (r1 : Rt neg v) (h : Sl W W.heap.size A n c (digs v)) :
    Calls Tryz.prog 24 #[.agg #[.bool neg, .slice A n c]] W fun e w' => e = .returned (.bool true) ∧ Below W.heap.size W w' :=
  right_at neg h true r1.right W (Below.refl _ _)
theorem made_v {zs : List Int} {B : Nat} (h : Reads W B 1 A n (zs.map (Value.int .i64))) (hB : B ≤ W.heap.size) (hn : n ≤ 9223372036854775807) :
    Calls Tryz.prog 6 #[.slice A n c] W (NR (decide (madeV zs < 0)) (madeV zs).natAbs W) := made_any A n c B zs W h hB hn
end

/-- A box that holds a number. -/
def NB (W : World) (b : Nat) (neg : Bool) (v : Nat) : Prop := ∃ A n c, W.cell? ⟨b, 0, none⟩ = some (.bool neg) ∧ W.cell? ⟨b, 1, none⟩ = some (.slice A n c) ∧ Sl W W.heap.size A n c (digs v) ∧ b < W.heap.size
theorem NB.via {W W1 : World} {b : Nat} {neg : Bool} {v : Nat} (h : NB W b neg v) (hb : Below W.heap.size W W1) : NB W1 b neg v := by
  obtain ⟨A, n, c, h1, h2, h3, h4⟩ := h
  exact ⟨A, n, c, (hb.cell (p := ⟨b, 0, none⟩) h4).trans h1, (hb.cell (p := ⟨b, 1, none⟩) h4).trans h2, (h3.below hb).more hb.size, Nat.lt_of_lt_of_le h4 hb.size⟩
theorem NB.new {W : World} {neg : Bool} {v : Nat} {A : Option Addr} {n c : Nat} (h : Sl W W.heap.size A n c (digs v)) (T : TypeId) : NB (W.alloc (.cells #[.bool neg, .slice A n c] T)) W.heap.size neg v :=
  ⟨A, n, c, by simp [go_sem], by simp [go_sem], h.alloc_ _, by simp⟩
theorem Sl.via {w w' : World} {A : Option Addr} {n c : Nat} {l : List Nat} (h : Sl w w.heap.size A n c l) (hb : Below w.heap.size w w') : Sl w' w'.heap.size A n c l := (h.below hb).more hb.size
end Go.Proofs.YthnickjbknpmhaaGreatDoor
