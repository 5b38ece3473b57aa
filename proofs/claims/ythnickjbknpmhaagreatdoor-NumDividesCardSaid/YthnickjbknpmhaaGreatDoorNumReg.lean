/-
  A region that draws its order, by an invariant of what has been carried out: one obligation an operation, in the place of one way an order. No program in sight.
-/
import Derived.WalkKit
import Derived.RegionTactic
namespace Go.Proofs.YthnickjbknpmhaaGreatDoor
open Go.RowKit

/-- Operation i waits for operation j. -/
def depB (ops : Array Oper) (i j : Nat) : Bool := match ops[i]? with
  | some o => o.after.any fun e => Region.binds .any e && e.on == j
  | none => false
/-- Operations wait for earlier ones alone. -/
def backB (ops : Array Oper) : Bool := (List.range ops.size).all fun i => match ops[i]? with
  | some o => o.after.all fun e => !Region.binds .any e || decide (e.on < i)
  | none => true
/-- What an operation is. -/
def opIs (ops : Array Oper) (i : Nat) (dst : Option Nat) (op : Op) : Prop := (ops[i]?).map (fun o => (o.dst, o.op, o.guard)) = some (dst, op, none)
def Closed (ops : Array Oper) (L : Array Bool) : Prop := ∀ i j, depB ops i j = true → L.getD i true = true → i < ops.size → L.getD j false = true

theorem mem_ready {ops : Array Oper} {L : Array Bool} {i : Nat} : i ∈ Region.ready .any ops L ↔ ∃ o, ops[i]? = some o ∧ L.getD i true = false ∧ ∀ e ∈ o.after, Region.binds .any e = true → L.getD e.on false = true := by
  unfold Region.ready
  rw [List.mem_filter, List.mem_range]
  constructor
  · rintro ⟨hi, h⟩
    rw [Bool.and_eq_true, Array.getElem?_eq_getElem hi] at h
    refine ⟨_, Array.getElem?_eq_getElem hi, by simpa using h.1, fun e he hb => ?_⟩
    have h2 := h.2
    simp only [Option.map_some, Option.getD_some, Array.all_eq_true_iff_forall_mem] at h2
    have := h2 e he
    rw [hb] at this
    simpa using this
  · rintro ⟨o, ho, hl, hd⟩
    refine ⟨(Array.getElem?_eq_some_iff.1 ho).1, ?_⟩
    rw [Bool.and_eq_true, ho]
    refine ⟨by rw [hl]; rfl, ?_⟩
    simp only [Option.map_some, Option.getD_some, Array.all_eq_true_iff_forall_mem]
    intro e he
    cases hb : Region.binds .any e with
    | false => rfl
    | true => simpa using hd e he hb

theorem getD_lt {L : Array Bool} {i : Nat} {b c : Bool} (h : i < L.size) : L.getD i b = L.getD i c := by simp [Array.getD, h]
theorem getD_set {L : Array Bool} {i j : Nat} (h : (L.setIfInBounds i true).getD j false = true) : j = i ∨ L.getD j false = true := by
  by_cases hj : j = i
  · exact .inl hj
  · refine .inr ?_
    simp only [Array.getD_eq_getD_getElem?] at h ⊢
    rwa [Array.getElem?_setIfInBounds_ne (Ne.symm hj)] at h
theorem getD_set_of {L : Array Bool} {i j : Nat} {b : Bool} (h : L.getD j b = true) : (L.setIfInBounds i true).getD j b = true := by
  simp only [Array.getD_eq_getD_getElem?] at h ⊢
  by_cases hj : j = i
  · subst hj
    rcases Nat.lt_or_ge j L.size with hl | hl
    · rw [Array.getElem?_setIfInBounds_self_of_lt hl]; rfl
    · rw [Array.getElem?_eq_none (by simpa using hl)]
      rwa [Array.getElem?_eq_none hl] at h
  · rwa [Array.getElem?_setIfInBounds_ne (Ne.symm hj)]
theorem getD_set_self {L : Array Bool} {i : Nat} {b : Bool} (h : i < L.size) : (L.setIfInBounds i true).getD i b = true := by
  simp only [Array.getD_eq_getD_getElem?]
  rw [Array.getElem?_setIfInBounds_self_of_lt h]; rfl

section
variable {P : Program} {ops : Array Oper} {Q : Exit → Act → World → Prop}

theorem all_listed (hb : backB ops = true) {L : Array Bool} (hs : L.size = ops.size) (hr : Region.ready .any ops L = []) : ∀ i, i < ops.size → L.getD i false = true := by
  intro i
  induction i using Nat.strongRecOn with
  | _ i ih =>
    intro hi
    cases hl : L.getD i false with
    | true => rfl
    | false =>
      exfalso
      have : i ∈ Region.ready .any ops L := mem_ready.2 ⟨_, Array.getElem?_eq_getElem hi, by rw [getD_lt (c := false) (by omega)]; exact hl, fun e he hbe => by
        have h1 := List.all_eq_true.1 hb i (List.mem_range.2 hi)
        rw [Array.getElem?_eq_getElem hi] at h1
        simp only [Array.all_eq_true_iff_forall_mem] at h1
        have h2 := h1 e he
        rw [hbe] at h2
        have h3 : e.on < i := by simpa using h2
        exact ih _ h3 (by omega)⟩
      rw [hr] at this
      cases this

theorem wpAny_inv (hb : backB ops = true) (Inv : Array Bool → Act → World → Prop)
    (hs : ∀ (L : Array Bool) a w i o, ops[i]? = some o → L.size = ops.size → Closed ops L → L.getD i true = false → (∀ j, depB ops i j = true → L.getD j false = true) → Inv L a w → wpOp P ops Q i (Inv (L.setIfInBounds i true)) a w)
    (he : ∀ (L : Array Bool) a w, (∀ i, i < ops.size → L.getD i false = true) → Inv L a w → Q .normal a w) :
    ∀ (fuel : Nat) (L : Array Bool) a w, L.size = ops.size → Closed ops L → L.toList.count false ≤ fuel → Inv L a w → wpAny P .any ops Q fuel L a w := by
  intro fuel
  induction fuel with
  | zero =>
    intro L a w hz hc hu hI
    have hall : ∀ i, i < ops.size → L.getD i true = true := by
      intro i hi
      cases hl : L.getD i true with
      | true => rfl
      | false =>
        exfalso
        have h1 : i < L.size := by omega
        have h2 : L[i] = false := by simpa [Array.getD, h1] using hl
        have h3 : false ∈ L.toList := by rw [← h2]; simp
        have := List.count_pos_iff.2 h3
        omega
    have hr : Region.ready .any ops L = [] := by
      rw [List.eq_nil_iff_forall_not_mem]
      intro i hi
      obtain ⟨o, ho, hl, _⟩ := mem_ready.1 hi
      rw [hall i (Array.getElem?_eq_some_iff.1 ho).1] at hl
      cases hl
    exact ⟨hr, he L a w (all_listed hb hz hr) hI⟩
  | succ fuel ih =>
    intro L a w hz hc hu hI
    refine ⟨fun hr => he L a w (all_listed hb hz hr) hI, fun i hi => ?_⟩
    obtain ⟨o, ho, hl, hd⟩ := mem_ready.1 hi
    have hlt := (Array.getElem?_eq_some_iff.1 ho).1
    have hdj : ∀ j, depB ops i j = true → L.getD j false = true := by
      intro j hj
      unfold depB at hj
      rw [ho] at hj
      obtain ⟨e, he1, he2⟩ := Array.any_eq_true'.1 hj
      rw [Bool.and_eq_true] at he2
      obtain ⟨he2, he3⟩ := he2
      have := hd e he1 he2
      rwa [show e.on = j by simpa using he3] at this
    refine wpOp_mono (fun a' w' hI' => ih _ a' w' (by simpa using hz) ?_ ?_ hI') (hs L a w i o ho hz hc hl hdj hI)
    · intro x y hxy hx hxs
      by_cases hxi : x = i
      · subst hxi
        exact getD_set_of (hdj y hxy)
      · refine getD_set_of (hc x y hxy ?_ hxs)
        simp only [Array.getD_eq_getD_getElem?] at hx ⊢
        rwa [Array.getElem?_setIfInBounds_ne (Ne.symm hxi)] at hx
    · have h1 : i < L.size := by omega
      have h2 : L[i] = false := by simpa [Array.getD, h1] using hl
      rw [Array.toList_setIfInBounds, List.count_set (by simpa using h1)]
      have h3 : (L.toList[i]'(by simpa using h1)) = false := by simpa using h2
      rw [h3]
      simp only [BEq.rfl, if_true]
      rw [if_neg (by decide)]
      omega

theorem wp_region_inv {id : Nat} {a : Act} {w : World} (hm : P.follows .mixedOrders = true) (hb : backB ops = true) (Inv : Array Bool → Act → World → Prop)
    (h0 : Inv (Array.replicate ops.size false) a w.drew)
    (hs : ∀ (L : Array Bool) a w i o, ops[i]? = some o → L.size = ops.size → Closed ops L → L.getD i true = false → (∀ j, depB ops i j = true → L.getD j false = true) → Inv L a w → wpOp P ops Q i (Inv (L.setIfInBounds i true)) a w)
    (he : ∀ (L : Array Bool) a w, (∀ i, i < ops.size → L.getD i false = true) → Inv L a w → Q .normal a w) : (Code.region id ops true).wp P Q a w := by
  refine wp_region_any hm (wpAny_inv hb Inv hs he _ _ a w.drew (by simp) ?_ (by simp) h0)
  intro i j _ hi hlt
  simp [Array.getD, hlt] at hi
end

/-- A frame with some slots patched. -/
def patch (t : Array Value) (S : List Nat) (f : Nat → Value) : Array Value := t.mapIdx fun k v => if k ∈ S then f k else v
theorem patch_start (t : Array Value) (S : List Nat) : patch t S (fun k => t.getD k undef) = t := by
  apply Array.ext
  · simp [patch]
  · intro i h1 h2
    simp [patch, h2]
theorem patch_get {t : Array Value} {S : List Nat} {f : Nat → Value} {k : Nat} (hk : k < t.size) (hS : k ∈ S) : (patch t S f).getD k undef = f k := by simp [patch, hk, hS]
theorem patch_out {t : Array Value} {S : List Nat} {f : Nat → Value} {k : Nat} (hS : k ∉ S) : (patch t S f).getD k undef = t.getD k undef := by
  simp only [patch, Array.getD_eq_getD_getElem?, Array.getElem?_mapIdx]
  cases h : t[k]? with
  | none => rfl
  | some v => simp [hS]
/-- f with another value at one place. -/
def upd (f : Nat → Value) (k : Nat) (v : Value) : Nat → Value := fun j => if j = k then v else f j
theorem upd_same (f : Nat → Value) (k : Nat) (v : Value) : upd f k v k = v := if_pos rfl
theorem upd_other {f : Nat → Value} {k j : Nat} {v : Value} (h : j ≠ k) : upd f k v j = f j := if_neg h
theorem patch_at (t : Array Value) (S : List Nat) (f : Nat → Value) (i : Nat) : (patch t S f)[i]? = (t[i]?).map fun v => if i ∈ S then f i else v := by
  unfold patch; rw [Array.getElem?_mapIdx]
theorem patch_set {t : Array Value} {S : List Nat} {f : Nat → Value} {k : Nat} {v : Value} (hS : k ∈ S) : (patch t S f).setIfInBounds k v = patch t S (upd f k v) := by
  apply Array.ext_getElem?
  intro i
  rw [Array.getElem?_setIfInBounds, patch_at, patch_at]
  by_cases hi : k = i
  · subst hi
    rw [if_pos rfl]
    by_cases hlt : k < t.size
    · rw [if_pos (by simpa [patch] using hlt), Array.getElem?_eq_getElem hlt]
      simp [hS, upd]
    · rw [if_neg (by simpa [patch] using hlt), Array.getElem?_eq_none (by omega)]
      rfl
  · rw [if_neg hi]
    simp only [upd, if_neg (Ne.symm hi)]
theorem patch_cons (t : Array Value) (k : Nat) (S : List Nat) (f : Nat → Value) : patch t (k :: S) f = (patch t S f).setIfInBounds k (f k) := by
  apply Array.ext_getElem?
  intro i
  rw [Array.getElem?_setIfInBounds, patch_at, patch_at]
  by_cases hi : k = i
  · subst hi
    rw [if_pos rfl]
    by_cases hlt : k < t.size
    · rw [if_pos (by simpa [patch] using hlt), Array.getElem?_eq_getElem hlt]
      simp
    · rw [if_neg (by simpa [patch] using hlt), Array.getElem?_eq_none (by omega)]
      rfl
  · rw [if_neg hi]
    simp [Ne.symm hi]
theorem patch_nil (t : Array Value) (f : Nat → Value) : patch t [] f = t := by
  apply Array.ext
  · simp [patch]
  · intro i h1 h2
    simp [patch]
end Go.Proofs.YthnickjbknpmhaaGreatDoor
