/-
  Merged: SymN, SymR, SymM, RatF, SymS, SymU, SymV, SymW, RtX.
-/
import Derived.Test.YtccjiodohphgnaaGreatDoorMgB
import Derived.Test.YtccjiodohphgnaaGreatDoorMgN
namespace Go.Proofs.YtccjiodohphgnaaGreatDoor
open Go.RowKit Go.Shelf

abbrev Raw := Bool × List Nat
def X (xs : List Raw) (i : Nat) : Raw := xs.getD i (false, [])
/-- The fields of a right number. -/
def nz (x : Int) : Raw := (decide (x < 0), digs x.natAbs)
/-- Facts: below 100 the fields of numbers, two a number; from 100 on values. -/
def FNc (xs : List Raw) (es : List Value) (n : Nat) : Pred := fun v W _ => if 100 ≤ n then v = es.getD (n - 100) (.bool false) else if n % 2 = 0 then v = .bool (X xs (n / 2)).1 else ∃ A m c, v = .slice A m c ∧ Sl W W.heap.size A m c (X xs (n / 2)).2
def FN (xs : List Raw) (es : List Value) : Fact := ⟨FNc xs es, fun _ vs _ _ => vs = []⟩
def nm (i : Nat) : List Lf := [.h (2 * i), .h (2 * i + 1)]
def NM (i : Nat) : Sh := .o (.g (nm i))
def RA (i j : Nat) : Sh := .o (.g (nm i ++ nm j))
def PR (i : Nat) (l : Lf) : Sh := .o (.g (nm i ++ [l]))
def KN (w0 : World) : Kit := ⟨fun T => [26, 28, 70, 54, 4, 32, 23, 39, 22, 9].contains T, fun k => match k with
  | .u32 => true
  | .u64 => true
  | _ => false, w0⟩
def IsN (x : Raw) (v : Value) (W : World) : Prop := ∃ A n c, v = .agg #[.bool x.1, .slice A n c] ∧ Sl W W.heap.size A n c x.2
def IsR (x y : Raw) (v : Value) (W : World) : Prop := ∃ A n c A2 n2 c2, v = .agg #[.bool x.1, .slice A n c, .bool y.1, .slice A2 n2 c2] ∧ Sl W W.heap.size A n c x.2 ∧ Sl W W.heap.size A2 n2 c2 y.2
def IsP (x : Raw) (u : Value) (v : Value) (W : World) : Prop := ∃ A n c, v = .agg #[.bool x.1, .slice A n c, u] ∧ Sl W W.heap.size A n c x.2
section
variable {xs : List Raw} {es : List Value} {β : Loc} {W W' : World} {v : Value}
theorem Sl.oth {w0 : World} {D : Dat} {S : Nat → Prop} {B n c : Nat} {A : Option Addr} {l : List Nat} (hS : ∀ q, S q → Mlq (KN w0) D W q) (hO : Oth S W W') (h : Sl W B A n c l) : Sl W' B A n c l := by
  refine ⟨⟨⟨h.1.1.1, fun hn => ?_⟩, h.1.2⟩, h.2⟩
  obtain ⟨ad, e, hb, hc⟩ := h.1.1.2 hn
  refine ⟨ad, e, hb, fun j u hj => ?_⟩
  have h1 := hc j u hj
  obtain ⟨d, _, hd⟩ := List.mem_map.1 (List.mem_of_getElem? hj)
  have hlt : (ad.add j).block < W.heap.size := by
    rcases Nat.lt_or_ge (ad.add j).block W.heap.size with hlt | hlt
    · exact hlt
    · simp only [World.cell?, Array.getElem?_eq_none hlt] at h1
      cases h1
  have hn2 : ¬ S (ad.add j).block := by
    intro hs
    obtain ⟨_, _, o, ho, hm⟩ := hS _ hs
    simp only [World.cell?, ho] at h1
    cases o with
    | cells cs T z =>
      simp only [ml, mlf, Bool.and_eq_true, List.all_eq_true] at hm
      have hmem : u ∈ cs.toList := by
        revert h1
        simp only
        split
        · intro h1; cases h1
        · intro h1; simpa using Array.mem_of_getElem? h1
      have := hm.2 u hmem
      rw [← hd] at this
      cases this
    | _ => simp [ml, mlf] at hm
  have h2 := hO.block _ hlt hn2
  simp only [World.cell?, h2] at h1 ⊢
  exact h1
theorem fine_FN {w0 : World} (hes : es.all (KN w0).ck = true) : Fine (KN w0) (FN xs es) := by
  refine ⟨fun n => ?_, fun n _ => ?_, fun n => ⟨fun _ _ _ h => h, fun h => by rw [show _ = [] from h]; rfl⟩⟩
  · intro v W W' D D' S hS hO _ h
    change FNc xs es n v W D at h
    show FNc xs es n v W' D'
    unfold FNc at h ⊢
    split at h
    · rename_i hc
      rw [if_pos hc]; exact h
    · rename_i hc
      rw [if_neg hc]
      split at h
      · rename_i hc
        rw [if_pos hc]; exact h
      · rename_i hc
        rw [if_neg hc]
        obtain ⟨A, m, c, e, hs⟩ := h
        exact ⟨A, m, c, e, (Sl.oth hS hO hs).more hO.size⟩
  · intro v W D h
    change FNc xs es n v W D at h
    unfold FNc at h
    split at h
    · rw [h, List.getD_eq_getElem?_getD]
      cases he : es[n - 100]? with
      | none => rfl
      | some u => exact List.all_eq_true.1 hes u (List.mem_of_getElem? he)
    · split at h
      · rw [h]; rfl
      · obtain ⟨A, m, c, e, _⟩ := h
        rw [e]; rfl
theorem nm_oks {i : Nat} (hi : i < 50) {vs : List Value} {ls : List Lf} : oks (FN xs es) β (nm i ++ ls) vs W ↔ ∃ A n c us, vs = .bool (X xs i).1 :: .slice A n c :: us ∧ Sl W W.heap.size A n c (X xs i).2 ∧ oks (FN xs es) β ls us W := by
  have h0 : ∀ v, FN xs es (2 * i) v W β.D ↔ v = .bool (X xs i).1 := fun v => by
    show FNc xs es (2 * i) v W β.D ↔ _
    unfold FNc; rw [if_neg (by omega), if_pos (by omega), show 2 * i / 2 = i by omega]
  have h1 : ∀ v, FN xs es (2 * i + 1) v W β.D ↔ ∃ A m c, v = .slice A m c ∧ Sl W W.heap.size A m c (X xs i).2 := fun v => by
    show FNc xs es (2 * i + 1) v W β.D ↔ _
    unfold FNc; rw [if_neg (by omega), if_neg (by omega), show (2 * i + 1) / 2 = i by omega]
  constructor
  · intro h
    match vs, h with
    | v0 :: v1 :: us, ⟨e0, e1, e2⟩ =>
      obtain ⟨A, m, c, e, hs⟩ := (h1 v1).1 e1
      exact ⟨A, m, c, us, by rw [(h0 v0).1 e0, e], hs, e2⟩
    | [_], ⟨_, h⟩ => exact h.elim
    | [], h => exact h.elim
  · rintro ⟨A, n, c, us, rfl, hs, h⟩
    exact ⟨(h0 _).2 rfl, (h1 _).2 ⟨A, n, c, rfl, hs⟩, h⟩
theorem oks_nil {us : List Value} {F : Fact} : oks F β [] us W ↔ us = [] := by cases us <;> simp [oks]
theorem NM_is {i : Nat} (hi : i < 50) : (NM i).ok (FN xs es) β v W ↔ IsN (X xs i) v W := by
  constructor
  · rintro ⟨vs, rfl, h⟩
    rw [show nm i = nm i ++ [] by simp, nm_oks hi] at h
    obtain ⟨A, n, c, us, e, hs, h⟩ := h
    rw [oks_nil] at h
    subst h
    exact ⟨A, n, c, by rw [← Array.toArray_toList (xs := vs), e], hs⟩
  · rintro ⟨A, n, c, rfl, hs⟩
    exact ⟨_, rfl, by rw [show nm i = nm i ++ [] by simp, nm_oks hi]; exact ⟨A, n, c, [], rfl, hs, trivial⟩⟩
theorem RA_is {i j : Nat} (hi : i < 50) (hj : j < 50) : (RA i j).ok (FN xs es) β v W ↔ IsR (X xs i) (X xs j) v W := by
  constructor
  · rintro ⟨vs, rfl, h⟩
    rw [nm_oks hi, show nm j = nm j ++ [] by simp] at h
    obtain ⟨A, n, c, us, e, hs, h⟩ := h
    rw [nm_oks hj] at h
    obtain ⟨A2, n2, c2, us2, e2, hs2, h⟩ := h
    rw [oks_nil] at h
    subst h; subst e2
    exact ⟨A, n, c, A2, n2, c2, by rw [← Array.toArray_toList (xs := vs), e], hs, hs2⟩
  · rintro ⟨A, n, c, A2, n2, c2, rfl, hs, hs2⟩
    refine ⟨_, rfl, ?_⟩
    rw [nm_oks hi, show nm j = nm j ++ [] by simp]
    refine ⟨A, n, c, _, rfl, hs, ?_⟩
    rw [nm_oks hj]
    exact ⟨A2, n2, c2, [], rfl, hs2, trivial⟩
theorem gives_e {k : Nat} {u : Value} (h : es.getD k (.bool false) = u) : Gives (FN xs es) (.h (100 + k)) u := fun β v W => by
  subst h
  show FNc xs es (100 + k) v W β.D ↔ _
  unfold FNc
  rw [if_pos (by omega), show 100 + k - 100 = k by omega]
theorem PR_is {i : Nat} {L : Lf} {u : Value} (hi : i < 50) (hL : Gives (FN xs es) L u) : (PR i L).ok (FN xs es) β v W ↔ IsP (X xs i) u v W := by
  constructor
  · rintro ⟨vs, rfl, h⟩
    rw [nm_oks hi] at h
    obtain ⟨A, n, c, us, e, hs, h⟩ := h
    match us, h with
    | [z], h =>
      have := (hL β z W).1 h.1
      subst this
      exact ⟨A, n, c, by rw [← Array.toArray_toList (xs := vs), e], hs⟩
    | [], h => exact h.elim
    | _ :: _ :: _, h => exact h.2.elim
  · rintro ⟨A, n, c, rfl, hs⟩
    refine ⟨_, rfl, ?_⟩
    rw [nm_oks hi]
    exact ⟨A, n, c, [u], rfl, hs, (hL β u W).2 rfl, trivial⟩
end
/-- A contract without boxes, as said of values. -/
theorem con_of {K : Kit} {P : Program} {F : Fact} {f : FuncId} {ag : List Sh} {res : Sh} (h : ∀ (β : Loc) (W : World) (vs : List Value), shs F β ag vs W → Below K.w0.heap.size K.w0 W → Calls P f vs.toArray W fun e W' => ∃ v, e = .returned v ∧ res.ok F β v W' ∧ Below W.heap.size W W') : Con.sound K P F ⟨f, ag, [], res, []⟩ := by
  refine ⟨rfl, fun β W vs hs _ hg => (h β W vs hs hg.bel).mono fun e W' hr => ?_⟩
  obtain ⟨v, rfl, h1, h2⟩ := hr
  have hO : Oth (fun _ => False) W W' := Oth.ofBelow h2
  exact ⟨v, β, rfl, h1, hO.mono fun _ h => h.elim, fun x h => (by cases h), fun b _ => Loc.same.rfl, fun _ h => h, fun _ h => .inl h, fun b h => (by cases h), hg.mono (fun _ h => h.elim) hO⟩
/-- No boxes, no data. -/
def β0 : Loc := ⟨fun _ => none, fun _ => (0, 0), fun _ => False⟩
theorem con_out {K : Kit} {P : Program} {F : Fact} {f : FuncId} {ag : List Sh} {res : Sh} {W : World} {vs : List Value} (h : Con.sound K P F ⟨f, ag, [], res, []⟩) (hs : shs F β0 ag vs W) (hw : Below K.w0.heap.size K.w0 W) : Calls P f vs.toArray W fun e W' => ∃ v β', e = .returned v ∧ res.ok F β' v W' ∧ Below W.heap.size W W' := by
  refine (h.2 _ W vs hs (fun x h => (by cases h)) ⟨fun b q h => (by cases h), fun b c q h => (by cases h), hw, fun b q h => (by cases h), fun q h => h.elim⟩).mono fun e W' hr => ?_
  obtain ⟨v, β', rfl, hb⟩ := hr
  exact ⟨v, β', rfl, hb.res, hb.oth.below (fun q ⟨b, h, _⟩ => by cases h)⟩
/-- What the operations give, of fields. -/
def addX (x y : Raw) : Option Int := sumS x.1 x.2 y.1 y.2 y.1
def subX (x y : Raw) : Option Int := sumS x.1 x.2 y.1 y.2 (!y.1)
def mulX (x y : Raw) : Option Int := mulS x.1 x.2 y.1 y.2
def gcdX (x y : Raw) : Option Int := gcdS x.1 x.2 y.1 y.2
def divX (x y : Raw) : Option (Int × Int) := divS x.1 x.2 y.1 y.2
def cmpX (x y : Raw) : Int := cmpS x.1 x.2 y.1 y.2
def intX (x : Raw) : Option Int := intS x.1 x.2
def rightX (x : Raw) : Bool := rightB x.1 x.2
section
variable {xs : List Raw} {es : List Value} {w0 : World}
theorem c_add {i j k : Nat} {o : Lf} (h : X xs k = nz (vO (addX (X xs i) (X xs j)))) (ho : Gives (FN xs es) o (.bool (okO (addX (X xs i) (X xs j))))) (hi : i < 50 := by first | assumption | decide) (hj : j < 50 := by first | assumption | decide) (hk : k < 50 := by first | assumption | decide) : Con.sound (KN w0) Tryz.prog (FN xs es) ⟨57, [NM i, NM j], [], .t [.g (nm k), .c o], []⟩ := by
  refine con_of fun β W vs hs _ => ?_
  match vs, hs with
  | [a, b], ⟨ha, hb, _⟩ =>
    obtain ⟨A, n, c, rfl, s1⟩ := (NM_is hi).1 ha
    obtain ⟨A2, n2, c2, rfl, s2⟩ := (NM_is hj).1 hb
    refine (add_any _ _ s1 s2 (Nat.le_refl _)).mono fun e W' hr => ?_
    obtain ⟨A3, n3, c3, rfl, s3, hb⟩ := hr
    refine ⟨_, rfl, ⟨_, rfl, (NM_is hk (v := .agg #[_, _])).2 ?_, (ho β _ W').2 rfl, trivial⟩, hb⟩
    rw [h]
    exact ⟨A3, n3, c3, rfl, s3⟩
  | [], h => exact h.elim
  | [_], h => exact h.2.elim
  | _ :: _ :: _ :: _, h => exact h.2.2.elim
theorem c_refadd {i j k : Nat} {o : Lf} (h : X xs k = nz (vO (addX (X xs i) (X xs j)))) (ho : Gives (FN xs es) o (.bool (okO (addX (X xs i) (X xs j))))) (hi : i < 50 := by first | assumption | decide) (hj : j < 50 := by first | assumption | decide) (hk : k < 50 := by first | assumption | decide) : Con.sound (KN w0) Tryz.prog (FN xs es) ⟨60, [NM i, NM j], [], .t [.g (nm k), .c o], []⟩ := by
  refine con_of fun β W vs hs _ => ?_
  match vs, hs with
  | [a, b], ⟨ha, hb, _⟩ =>
    obtain ⟨A, n, c, rfl, s1⟩ := (NM_is hi).1 ha
    obtain ⟨A2, n2, c2, rfl, s2⟩ := (NM_is hj).1 hb
    refine (refadd_any _ _ s1 s2 (Nat.le_refl _)).mono fun e W' hr => ?_
    obtain ⟨A3, n3, c3, rfl, s3, hb⟩ := hr
    refine ⟨_, rfl, ⟨_, rfl, (NM_is hk (v := .agg #[_, _])).2 ?_, (ho β _ W').2 rfl, trivial⟩, hb⟩
    rw [h]
    exact ⟨A3, n3, c3, rfl, s3⟩
  | [], h => exact h.elim
  | [_], h => exact h.2.elim
  | _ :: _ :: _ :: _, h => exact h.2.2.elim
theorem c_sub {i j k : Nat} {o : Lf} (h : X xs k = nz (vO (subX (X xs i) (X xs j)))) (ho : Gives (FN xs es) o (.bool (okO (subX (X xs i) (X xs j))))) (hi : i < 50 := by first | assumption | decide) (hj : j < 50 := by first | assumption | decide) (hk : k < 50 := by first | assumption | decide) : Con.sound (KN w0) Tryz.prog (FN xs es) ⟨92, [NM i, NM j], [], .t [.g (nm k), .c o], []⟩ := by
  refine con_of fun β W vs hs _ => ?_
  match vs, hs with
  | [a, b], ⟨ha, hb, _⟩ =>
    obtain ⟨A, n, c, rfl, s1⟩ := (NM_is hi).1 ha
    obtain ⟨A2, n2, c2, rfl, s2⟩ := (NM_is hj).1 hb
    refine (sub_any _ _ s1 s2 (Nat.le_refl _)).mono fun e W' hr => ?_
    obtain ⟨A3, n3, c3, rfl, s3, hb⟩ := hr
    refine ⟨_, rfl, ⟨_, rfl, (NM_is hk (v := .agg #[_, _])).2 ?_, (ho β _ W').2 rfl, trivial⟩, hb⟩
    rw [h]
    exact ⟨A3, n3, c3, rfl, s3⟩
  | [], h => exact h.elim
  | [_], h => exact h.2.elim
  | _ :: _ :: _ :: _, h => exact h.2.2.elim
theorem c_refsub {i j k : Nat} {o : Lf} (h : X xs k = nz (vO (subX (X xs i) (X xs j)))) (ho : Gives (FN xs es) o (.bool (okO (subX (X xs i) (X xs j))))) (hi : i < 50 := by first | assumption | decide) (hj : j < 50 := by first | assumption | decide) (hk : k < 50 := by first | assumption | decide) : Con.sound (KN w0) Tryz.prog (FN xs es) ⟨93, [NM i, NM j], [], .t [.g (nm k), .c o], []⟩ := by
  refine con_of fun β W vs hs _ => ?_
  match vs, hs with
  | [a, b], ⟨ha, hb, _⟩ =>
    obtain ⟨A, n, c, rfl, s1⟩ := (NM_is hi).1 ha
    obtain ⟨A2, n2, c2, rfl, s2⟩ := (NM_is hj).1 hb
    refine (refsub_any _ _ s1 s2 (Nat.le_refl _)).mono fun e W' hr => ?_
    obtain ⟨A3, n3, c3, rfl, s3, hb⟩ := hr
    refine ⟨_, rfl, ⟨_, rfl, (NM_is hk (v := .agg #[_, _])).2 ?_, (ho β _ W').2 rfl, trivial⟩, hb⟩
    rw [h]
    exact ⟨A3, n3, c3, rfl, s3⟩
  | [], h => exact h.elim
  | [_], h => exact h.2.elim
  | _ :: _ :: _ :: _, h => exact h.2.2.elim
theorem c_mul {i j k : Nat} {o : Lf} (h : X xs k = nz (vO (mulX (X xs i) (X xs j)))) (ho : Gives (FN xs es) o (.bool (okO (mulX (X xs i) (X xs j))))) (hi : i < 50 := by first | assumption | decide) (hj : j < 50 := by first | assumption | decide) (hk : k < 50 := by first | assumption | decide) : Con.sound (KN w0) Tryz.prog (FN xs es) ⟨87, [NM i, NM j], [], .t [.g (nm k), .c o], []⟩ := by
  refine con_of fun β W vs hs _ => ?_
  match vs, hs with
  | [a, b], ⟨ha, hb, _⟩ =>
    obtain ⟨A, n, c, rfl, s1⟩ := (NM_is hi).1 ha
    obtain ⟨A2, n2, c2, rfl, s2⟩ := (NM_is hj).1 hb
    refine (mul_any _ _ s1 s2 (Nat.le_refl _)).mono fun e W' hr => ?_
    obtain ⟨A3, n3, c3, rfl, s3, hb⟩ := hr
    refine ⟨_, rfl, ⟨_, rfl, (NM_is hk (v := .agg #[_, _])).2 ?_, (ho β _ W').2 rfl, trivial⟩, hb⟩
    rw [h]
    exact ⟨A3, n3, c3, rfl, s3⟩
  | [], h => exact h.elim
  | [_], h => exact h.2.elim
  | _ :: _ :: _ :: _, h => exact h.2.2.elim
theorem c_refmul {i j k : Nat} {o : Lf} (h : X xs k = nz (vO (mulX (X xs i) (X xs j)))) (ho : Gives (FN xs es) o (.bool (okO (mulX (X xs i) (X xs j))))) (hi : i < 50 := by first | assumption | decide) (hj : j < 50 := by first | assumption | decide) (hk : k < 50 := by first | assumption | decide) : Con.sound (KN w0) Tryz.prog (FN xs es) ⟨59, [NM i, NM j], [], .t [.g (nm k), .c o], []⟩ := by
  refine con_of fun β W vs hs _ => ?_
  match vs, hs with
  | [a, b], ⟨ha, hb, _⟩ =>
    obtain ⟨A, n, c, rfl, s1⟩ := (NM_is hi).1 ha
    obtain ⟨A2, n2, c2, rfl, s2⟩ := (NM_is hj).1 hb
    refine (refmul_any _ _ s1 s2 (Nat.le_refl _)).mono fun e W' hr => ?_
    obtain ⟨A3, n3, c3, rfl, s3, hb⟩ := hr
    refine ⟨_, rfl, ⟨_, rfl, (NM_is hk (v := .agg #[_, _])).2 ?_, (ho β _ W').2 rfl, trivial⟩, hb⟩
    rw [h]
    exact ⟨A3, n3, c3, rfl, s3⟩
  | [], h => exact h.elim
  | [_], h => exact h.2.elim
  | _ :: _ :: _ :: _, h => exact h.2.2.elim
theorem c_gcd {i j k : Nat} {o : Lf} (h : X xs k = nz (vO (gcdX (X xs i) (X xs j)))) (ho : Gives (FN xs es) o (.bool (okO (gcdX (X xs i) (X xs j))))) (hi : i < 50 := by first | assumption | decide) (hj : j < 50 := by first | assumption | decide) (hk : k < 50 := by first | assumption | decide) : Con.sound (KN w0) Tryz.prog (FN xs es) ⟨83, [NM i, NM j], [], .t [.g (nm k), .c o], []⟩ := by
  refine con_of fun β W vs hs _ => ?_
  match vs, hs with
  | [a, b], ⟨ha, hb, _⟩ =>
    obtain ⟨A, n, c, rfl, s1⟩ := (NM_is hi).1 ha
    obtain ⟨A2, n2, c2, rfl, s2⟩ := (NM_is hj).1 hb
    refine (gcd_any _ _ s1 s2 (Nat.le_refl _)).mono fun e W' hr => ?_
    obtain ⟨A3, n3, c3, rfl, s3, hb⟩ := hr
    refine ⟨_, rfl, ⟨_, rfl, (NM_is hk (v := .agg #[_, _])).2 ?_, (ho β _ W').2 rfl, trivial⟩, hb⟩
    rw [h]
    exact ⟨A3, n3, c3, rfl, s3⟩
  | [], h => exact h.elim
  | [_], h => exact h.2.elim
  | _ :: _ :: _ :: _, h => exact h.2.2.elim
theorem c_refgcd {i j k : Nat} {o : Lf} (h : X xs k = nz (vO (gcdX (X xs i) (X xs j)))) (ho : Gives (FN xs es) o (.bool (okO (gcdX (X xs i) (X xs j))))) (hi : i < 50 := by first | assumption | decide) (hj : j < 50 := by first | assumption | decide) (hk : k < 50 := by first | assumption | decide) : Con.sound (KN w0) Tryz.prog (FN xs es) ⟨85, [NM i, NM j], [], .t [.g (nm k), .c o], []⟩ := by
  refine con_of fun β W vs hs _ => ?_
  match vs, hs with
  | [a, b], ⟨ha, hb, _⟩ =>
    obtain ⟨A, n, c, rfl, s1⟩ := (NM_is hi).1 ha
    obtain ⟨A2, n2, c2, rfl, s2⟩ := (NM_is hj).1 hb
    refine (refgcd_any _ _ s1 s2 (Nat.le_refl _)).mono fun e W' hr => ?_
    obtain ⟨A3, n3, c3, rfl, s3, hb⟩ := hr
    refine ⟨_, rfl, ⟨_, rfl, (NM_is hk (v := .agg #[_, _])).2 ?_, (ho β _ W').2 rfl, trivial⟩, hb⟩
    rw [h]
    exact ⟨A3, n3, c3, rfl, s3⟩
  | [], h => exact h.elim
  | [_], h => exact h.2.elim
  | _ :: _ :: _ :: _, h => exact h.2.2.elim
theorem c_cmp {i j : Nat} {o : Lf} (ho : Gives (FN xs es) o (.int .i64 (cmpX (X xs i) (X xs j)))) (hi : i < 50 := by first | assumption | decide) (hj : j < 50 := by first | assumption | decide) : Con.sound (KN w0) Tryz.prog (FN xs es) ⟨33, [NM i, NM j], [], LF o, []⟩ := by
  refine con_of fun β W vs hs _ => ?_
  match vs, hs with
  | [a, b], ⟨ha, hb, _⟩ =>
    obtain ⟨A, n, c, rfl, s1⟩ := (NM_is hi).1 ha
    obtain ⟨A2, n2, c2, rfl, s2⟩ := (NM_is hj).1 hb
    refine (cmp_any _ _ s1 s2 (Nat.le_refl _)).mono fun e W' hr => ?_
    obtain ⟨rfl, hb⟩ := hr
    exact ⟨_, rfl, (ho β _ W').2 rfl, hb⟩
  | [], h => exact h.elim
  | [_], h => exact h.2.elim
  | _ :: _ :: _ :: _, h => exact h.2.2.elim
theorem c_refcmp {i j : Nat} {o : Lf} (ho : Gives (FN xs es) o (.int .i64 (cmpX (X xs i) (X xs j)))) (hi : i < 50 := by first | assumption | decide) (hj : j < 50 := by first | assumption | decide) : Con.sound (KN w0) Tryz.prog (FN xs es) ⟨54, [NM i, NM j], [], LF o, []⟩ := by
  refine con_of fun β W vs hs _ => ?_
  match vs, hs with
  | [a, b], ⟨ha, hb, _⟩ =>
    obtain ⟨A, n, c, rfl, s1⟩ := (NM_is hi).1 ha
    obtain ⟨A2, n2, c2, rfl, s2⟩ := (NM_is hj).1 hb
    refine (refcmp_any _ _ s1 s2 (Nat.le_refl _)).mono fun e W' hr => ?_
    obtain ⟨rfl, hb⟩ := hr
    exact ⟨_, rfl, (ho β _ W').2 rfl, hb⟩
  | [], h => exact h.elim
  | [_], h => exact h.2.elim
  | _ :: _ :: _ :: _, h => exact h.2.2.elim
theorem c_div {i j k k2 : Nat} {o : Lf} (h : X xs k = nz (dqO (divX (X xs i) (X xs j)))) (h2 : X xs k2 = nz (drO (divX (X xs i) (X xs j)))) (ho : Gives (FN xs es) o (.bool (divX (X xs i) (X xs j)).isSome)) (hi : i < 50 := by first | assumption | decide) (hj : j < 50 := by first | assumption | decide) (hk : k < 50 := by first | assumption | decide) (hk2 : k2 < 50 := by first | assumption | decide) : Con.sound (KN w0) Tryz.prog (FN xs es) ⟨64, [NM i, NM j], [], .t [.g (nm k), .g (nm k2), .c o], []⟩ := by
  refine con_of fun β W vs hs _ => ?_
  match vs, hs with
  | [a, b], ⟨ha, hb, _⟩ =>
    obtain ⟨A, n, c, rfl, s1⟩ := (NM_is hi).1 ha
    obtain ⟨A2, n2, c2, rfl, s2⟩ := (NM_is hj).1 hb
    refine (div_any _ _ s1 s2 (Nat.le_refl _)).mono fun e W' hr => ?_
    obtain ⟨A3, n3, c3, A4, n4, c4, rfl, s3, s4, hb⟩ := hr
    refine ⟨_, rfl, ⟨_, rfl, (NM_is hk (v := .agg #[_, _])).2 ?_, (NM_is hk2 (v := .agg #[_, _])).2 ?_, (ho β _ W').2 rfl, trivial⟩, hb⟩
    · rw [h]
      exact ⟨A3, n3, c3, rfl, s3⟩
    · rw [h2]
      exact ⟨A4, n4, c4, rfl, s4⟩
  | [], h => exact h.elim
  | [_], h => exact h.2.elim
  | _ :: _ :: _ :: _, h => exact h.2.2.elim
theorem c_refdiv {i j k k2 : Nat} {o : Lf} (h : X xs k = nz (dqO (divX (X xs i) (X xs j)))) (h2 : X xs k2 = nz (drO (divX (X xs i) (X xs j)))) (ho : Gives (FN xs es) o (.bool (divX (X xs i) (X xs j)).isSome)) (hi : i < 50 := by first | assumption | decide) (hj : j < 50 := by first | assumption | decide) (hk : k < 50 := by first | assumption | decide) (hk2 : k2 < 50 := by first | assumption | decide) : Con.sound (KN w0) Tryz.prog (FN xs es) ⟨66, [NM i, NM j], [], .t [.g (nm k), .g (nm k2), .c o], []⟩ := by
  refine con_of fun β W vs hs _ => ?_
  match vs, hs with
  | [a, b], ⟨ha, hb, _⟩ =>
    obtain ⟨A, n, c, rfl, s1⟩ := (NM_is hi).1 ha
    obtain ⟨A2, n2, c2, rfl, s2⟩ := (NM_is hj).1 hb
    refine (refdiv_any _ _ s1 s2 (Nat.le_refl _)).mono fun e W' hr => ?_
    obtain ⟨A3, n3, c3, A4, n4, c4, rfl, s3, s4, hb⟩ := hr
    refine ⟨_, rfl, ⟨_, rfl, (NM_is hk (v := .agg #[_, _])).2 ?_, (NM_is hk2 (v := .agg #[_, _])).2 ?_, (ho β _ W').2 rfl, trivial⟩, hb⟩
    · rw [h]
      exact ⟨A3, n3, c3, rfl, s3⟩
    · rw [h2]
      exact ⟨A4, n4, c4, rfl, s4⟩
  | [], h => exact h.elim
  | [_], h => exact h.2.elim
  | _ :: _ :: _ :: _, h => exact h.2.2.elim
theorem c_right {i : Nat} {o : Lf} (ho : Gives (FN xs es) o (.bool (rightX (X xs i)))) (hi : i < 50 := by first | assumption | decide) : Con.sound (KN w0) Tryz.prog (FN xs es) ⟨73, [NM i], [], LF o, []⟩ := by
  refine con_of fun β W vs hs _ => ?_
  match vs, hs with
  | [a], ⟨ha, _⟩ =>
    obtain ⟨A, n, c, rfl, s1⟩ := (NM_is hi).1 ha
    refine (right_any _ A n c W.heap.size _ W s1.1 (Nat.le_refl _) s1.2.1).mono fun e W' hr => ?_
    obtain ⟨rfl, hb⟩ := hr
    exact ⟨_, rfl, (ho β _ W').2 rfl, hb⟩
  | [], h => exact h.elim
  | _ :: _ :: _, h => exact h.2.elim
theorem c_int {i : Nat} {o o2 : Lf} (ho : Gives (FN xs es) o (.int .i64 (vO (intX (X xs i))))) (ho2 : Gives (FN xs es) o2 (.bool (okO (intX (X xs i))))) (hi : i < 50 := by first | assumption | decide) : Con.sound (KN w0) Tryz.prog (FN xs es) ⟨78, [NM i], [], .t [.c o, .c o2], []⟩ := by
  refine con_of fun β W vs hs _ => ?_
  match vs, hs with
  | [a], ⟨ha, _⟩ =>
    obtain ⟨A, n, c, rfl, s1⟩ := (NM_is hi).1 ha
    refine (int_any _ s1 (Nat.le_refl _)).mono fun e W' hr => ?_
    obtain ⟨rfl, hb⟩ := hr
    exact ⟨_, rfl, ⟨_, rfl, (ho β _ W').2 rfl, (ho2 β _ W').2 rfl, trivial⟩, hb⟩
  | [], h => exact h.elim
  | _ :: _ :: _, h => exact h.2.elim
theorem c_refright {i : Nat} {o : Lf} (ho : Gives (FN xs es) o (.bool (rightX (X xs i)))) (hi : i < 50 := by first | assumption | decide) : Con.sound (KN w0) Tryz.prog (FN xs es) ⟨84, [NM i], [], LF o, []⟩ := by
  refine con_of fun β W vs hs _ => ?_
  match vs, hs with
  | [a], ⟨ha, _⟩ =>
    obtain ⟨A, n, c, rfl, s1⟩ := (NM_is hi).1 ha
    refine (refright_any _ A n c W.heap.size _ W s1.1 (Nat.le_refl _) s1.2.1).mono fun e W' hr => ?_
    obtain ⟨rfl, hb⟩ := hr
    exact ⟨_, rfl, (ho β _ W').2 rfl, hb⟩
  | [], h => exact h.elim
  | _ :: _ :: _, h => exact h.2.elim
theorem c_refint {i : Nat} {o o2 : Lf} (ho : Gives (FN xs es) o (.int .i64 (vO (intX (X xs i))))) (ho2 : Gives (FN xs es) o2 (.bool (okO (intX (X xs i))))) (hi : i < 50 := by first | assumption | decide) : Con.sound (KN w0) Tryz.prog (FN xs es) ⟨80, [NM i], [], .t [.c o, .c o2], []⟩ := by
  refine con_of fun β W vs hs _ => ?_
  match vs, hs with
  | [a], ⟨ha, _⟩ =>
    obtain ⟨A, n, c, rfl, s1⟩ := (NM_is hi).1 ha
    refine (refint_any _ s1 (Nat.le_refl _)).mono fun e W' hr => ?_
    obtain ⟨rfl, hb⟩ := hr
    exact ⟨_, rfl, ⟨_, rfl, (ho β _ W').2 rfl, (ho2 β _ W').2 rfl, trivial⟩, hb⟩
  | [], h => exact h.elim
  | _ :: _ :: _, h => exact h.2.elim
theorem c_text {i : Nat} {o : Lf} (hT : ∀ W, Below w0.heap.size w0 W → PowT w0.heap.size W) (ho : Gives (FN xs es) o (.string ⟨(textS (X xs i).1 (X xs i).2).toArray⟩)) (hi : i < 50 := by first | assumption | decide) : Con.sound (KN w0) Tryz.prog (FN xs es) ⟨68, [NM i], [], LF o, []⟩ := by
  refine con_of fun β W vs hs hw => ?_
  match vs, hs with
  | [a], ⟨ha, _⟩ =>
    obtain ⟨A, n, c, rfl, s1⟩ := (NM_is hi).1 ha
    refine (text_any _ s1 (Nat.le_refl _) ((hT W hw).mono hw.size)).mono fun e W' hr => ?_
    obtain ⟨rfl, hb⟩ := hr
    exact ⟨_, rfl, (ho β _ W').2 rfl, hb⟩
  | [], h => exact h.elim
  | _ :: _ :: _, h => exact h.2.elim
theorem c_of {k : Nat} {a : Lf} {x : Int} (ha : Gives (FN xs es) a (.int .i64 x)) (h0 : -9223372036854775808 ≤ x) (h1 : x < 9223372036854775808) (h : X xs k = nz x) (hk : k < 50 := by first | assumption | decide) : Con.sound (KN w0) Tryz.prog (FN xs es) ⟨34, [LF a], [], NM k, []⟩ := by
  refine con_of fun β W vs hs _ => ?_
  match vs, hs with
  | [v], ⟨hv, _⟩ =>
    have := (ha β v W).1 hv
    subst this
    refine (of_any x W h0 h1).mono fun e W' hr => ?_
    obtain ⟨A, n, c, rfl, s, hb⟩ := hr
    exact ⟨_, rfl, (NM_is hk).2 (by rw [h]; exact ⟨A, n, c, rfl, s⟩), hb⟩
  | [], h => exact h.elim
  | _ :: _ :: _, h => exact h.2.elim
theorem c_parse {k : Nat} {a o : Lf} {s : List UInt8} (hT : ∀ W, Below w0.heap.size w0 W → PowT w0.heap.size W ∧ SynT w0.heap.size W) (ha : Gives (FN xs es) a (.string ⟨s.toArray⟩)) (h : X xs k = nz (vO (parseS s))) (ho : Gives (FN xs es) o (.bool (okO (parseS s)))) (hk : k < 50 := by first | assumption | decide) : Con.sound (KN w0) Tryz.prog (FN xs es) ⟨70, [LF a], [], .t [.g (nm k), .c o], []⟩ := by
  refine con_of fun β W vs hs hw => ?_
  match vs, hs with
  | [v], ⟨hv, _⟩ =>
    have := (ha β v W).1 hv
    subst this
    refine (parse_any s W hw.size (hT W hw).1 (hT W hw).2).mono fun e W' hr => ?_
    obtain ⟨A, n, c, rfl, s, hb⟩ := hr
    exact ⟨_, rfl, ⟨_, rfl, (NM_is hk (v := .agg #[_, _])).2 (by rw [h]; exact ⟨A, n, c, rfl, s⟩), (ho β _ W').2 rfl, trivial⟩, hb⟩
  | [], h => exact h.elim
  | _ :: _ :: _, h => exact h.2.elim
end
end Go.Proofs.YtccjiodohphgnaaGreatDoor

namespace Go.Proofs.YtccjiodohphgnaaGreatDoor
open Go.RowKit Go.Shelf

/-- A contract said of other facts. -/
theorem tr {K : Kit} {P : Program} {F F' : Fact} {f : FuncId} {ag ag' : List Sh} {res res' : Sh} (h : Con.sound K P F' ⟨f, ag', [], res', []⟩) (ha : ∀ β vs W, shs F β ag vs W → shs F' β0 ag' vs W) (hr : ∀ β β' v W, res'.ok F' β' v W → res.ok F β v W) : Con.sound K P F ⟨f, ag, [], res, []⟩ :=
  con_of fun β W _ hs hw => (con_out h (ha β _ W hs) hw).mono fun _ _ ⟨v, β', e, h1, h2⟩ => ⟨v, e, hr β β' v _ h1, h2⟩
section
variable {F F' : Fact} {β β' : Loc} {W : World}
theorem sh0 : ∀ (β : Loc) vs W, shs F β [] vs W → shs F' β0 [] vs W
  | _, [], _, _ => trivial
  | _, _ :: _, _, h => h.elim
theorem sh1 {a a' : Sh} (h : ∀ β v W, a.ok F β v W → a'.ok F' β0 v W) : ∀ (β : Loc) vs W, shs F β [a] vs W → shs F' β0 [a'] vs W
  | _, [_], _, hs => ⟨h _ _ _ hs.1, trivial⟩
  | _, [], _, h => h.elim
  | _, _ :: _ :: _, _, h => h.2.elim
theorem sh2 {a a' b b' : Sh} (h : ∀ β v W, a.ok F β v W → a'.ok F' β0 v W) (h2 : ∀ β v W, b.ok F β v W → b'.ok F' β0 v W) : ∀ (β : Loc) vs W, shs F β [a, b] vs W → shs F' β0 [a', b'] vs W
  | _, [_, _], _, hs => ⟨h _ _ _ hs.1, h2 _ _ _ hs.2.1, trivial⟩
  | _, [], _, h => h.elim
  | _, [_], _, h => h.2.elim
  | _, _ :: _ :: _ :: _, _, h => h.2.2.elim
end
section
variable {xs xs' : List Raw} {es es' : List Value} {w0 : World} {i j k l i' j' k' l' : Nat}
theorem NM_mv (h : X xs' i' = X xs i) (hi : i < 50 := by first | assumption | decide) (hi' : i' < 50 := by first | assumption | decide) : ∀ β v W, (NM i).ok (FN xs es) β v W → (NM i').ok (FN xs' es') β0 v W := fun _ _ _ hv => by
  rw [NM_is hi] at hv; rw [NM_is hi', h]; exact hv
theorem NM_bk (h : X xs' i' = X xs i) (hi : i < 50 := by first | assumption | decide) (hi' : i' < 50 := by first | assumption | decide) : ∀ β β' v W, (NM i').ok (FN xs' es') β' v W → (NM i).ok (FN xs es) β v W := fun _ _ _ _ hv => by
  rw [NM_is hi', h] at hv; rw [NM_is hi]; exact hv
theorem RA_mv (h : X xs' i' = X xs i) (h2 : X xs' j' = X xs j) (hi : i < 50 := by first | assumption | decide) (hj : j < 50 := by first | assumption | decide) (hi' : i' < 50 := by first | assumption | decide) (hj' : j' < 50 := by first | assumption | decide) : ∀ β v W, (RA i j).ok (FN xs es) β v W → (RA i' j').ok (FN xs' es') β0 v W := fun _ _ _ hv => by
  rw [RA_is hi hj] at hv; rw [RA_is hi' hj', h, h2]; exact hv
theorem RA_bk (h : X xs' i' = X xs i) (h2 : X xs' j' = X xs j) (hi : i < 50 := by first | assumption | decide) (hj : j < 50 := by first | assumption | decide) (hi' : i' < 50 := by first | assumption | decide) (hj' : j' < 50 := by first | assumption | decide) : ∀ β β' v W, (RA i' j').ok (FN xs' es') β' v W → (RA i j).ok (FN xs es) β v W := fun _ _ _ _ hv => by
  rw [RA_is hi' hj', h, h2] at hv; rw [RA_is hi hj]; exact hv
theorem PR_mv {L L' : Lf} {u : Value} (h : X xs' i' = X xs i) (hL : Gives (FN xs es) L u) (hL' : Gives (FN xs' es') L' u) (hi : i < 50 := by first | assumption | decide) (hi' : i' < 50 := by first | assumption | decide) : ∀ β v W, (PR i L).ok (FN xs es) β v W → (PR i' L').ok (FN xs' es') β0 v W := fun _ _ _ hv => by
  rw [PR_is hi hL] at hv; rw [PR_is hi' hL', h]; exact hv
theorem PR_bk {L L' : Lf} {u : Value} (h : X xs' i' = X xs i) (hL : Gives (FN xs es) L u) (hL' : Gives (FN xs' es') L' u) (hi : i < 50 := by first | assumption | decide) (hi' : i' < 50 := by first | assumption | decide) : ∀ β β' v W, (PR i' L').ok (FN xs' es') β' v W → (PR i L).ok (FN xs es) β v W := fun _ _ _ _ hv => by
  rw [PR_is hi' hL', h] at hv; rw [PR_is hi hL]; exact hv
theorem LF_mv {F F' : Fact} {L L' : Lf} {u : Value} (hL : Gives F L u) (hL' : Gives F' L' u) : ∀ (β : Loc) v W, (LF L).ok F β v W → (LF L').ok F' β0 v W := fun β v W hv => (hL' _ v W).2 ((hL β v W).1 hv)
theorem LF_bk {F F' : Fact} {L L' : Lf} {u : Value} (hL : Gives F L u) (hL' : Gives F' L' u) : ∀ (β β' : Loc) v W, (LF L').ok F' β' v W → (LF L).ok F β v W := fun β β' v W hv => (hL β v W).2 ((hL' β' v W).1 hv)
/-- Tuples, part by part. -/
theorem T2_bk {F F' : Fact} {a b a' b' : Cm} (h : ∀ (β β' : Loc) v W, (Sh.o a').ok F' β' v W → (Sh.o a).ok F β v W) (h2 : ∀ (β β' : Loc) v W, (Sh.o b').ok F' β' v W → (Sh.o b).ok F β v W) : ∀ (β β' : Loc) v W, (Sh.t [a', b']).ok F' β' v W → (Sh.t [a, b]).ok F β v W := by
  rintro β β' v W ⟨vs, rfl, hs⟩
  refine ⟨vs, rfl, ?_⟩
  match vs.toList, hs with
  | [x, y], ⟨h1, h3, _⟩ => exact ⟨h β β' x W h1, h2 β β' y W h3, trivial⟩
  | [], h => exact h.elim
  | [_], h => exact h.2.elim
  | _ :: _ :: _ :: _, h => exact h.2.2.elim
end
/-- A comparison of two ints. -/
theorem c_bin {K : Kit} {P : Program} {F : Fact} {op : BinOp} {T : TypeId} {x y o : Lf} {k : IntKind} {a b : Int} {r : Bool} (hx : Gives F x (.int k a)) (hy : Gives F y (.int k b)) (hr : binK op a b = some r) (ho : Gives F o (.bool r)) : Ent.sound K P F (.bin op T (LF x) (LF y) (LF o)) := by
  intro β W vx vy h1 h2
  rw [(hx β vx W).1 h1, (hy β vy W).1 h2]
  exact ⟨.bool r, fun X Y => bin_int hr T X Y, (ho β _ W).2 rfl⟩
theorem c_fb {K : Kit} {P : Program} {F : Fact} {n : Nat} {b : Bool} (h : Gives F (.h n) (.bool b)) : Ent.sound K P F (.fb n b) := fun v W D hv => (h ⟨fun _ => none, fun _ => (0, 0), D⟩ v W).1 hv
end Go.Proofs.YtccjiodohphgnaaGreatDoor

namespace Go.Proofs.YtccjiodohphgnaaGreatDoor
open Go.RowKit Go.Shelf

section
variable {x y : Int}
theorem rightX_nz (hx : x.natAbs < big) : rightX (nz x) = true := (Rt.of x hx).right
theorem addX_nz (hx : x.natAbs < big) (hy : y.natAbs < big) : addX (nz x) (nz y) = fitO (x + y) := by
  show sumS (decide (x < 0)) (digs x.natAbs) (decide (y < 0)) (digs y.natAbs) (decide (y < 0)) = _
  unfold sumS; rw [if_pos ⟨(Rt.of x hx).right, (Rt.of y hy).right⟩, nval_digs, nval_digs, sgn_dec, sgn_dec]
theorem subX_nz (hx : x.natAbs < big) (hy : y.natAbs < big) : subX (nz x) (nz y) = fitO (x - y) := by
  show sumS (decide (x < 0)) (digs x.natAbs) (decide (y < 0)) (digs y.natAbs) (!decide (y < 0)) = _
  unfold sumS; rw [if_pos ⟨(Rt.of x hx).right, (Rt.of y hy).right⟩, nval_digs, nval_digs, sgn_dec, sgn_not, Int.sub_eq_add_neg]
theorem mulX_nz (hx : x.natAbs < big) (hy : y.natAbs < big) : mulX (nz x) (nz y) = fitO (x * y) := by
  show mulS (decide (x < 0)) (digs x.natAbs) (decide (y < 0)) (digs y.natAbs) = _
  unfold mulS; rw [if_pos ⟨(Rt.of x hx).right, (Rt.of y hy).right⟩, nval_digs, nval_digs, sgn_dec, sgn_dec]
theorem gcdX_nz (hx : x.natAbs < big) (hy : y.natAbs < big) : gcdX (nz x) (nz y) = some ((Nat.gcd x.natAbs y.natAbs : Nat) : Int) := by
  show gcdS (decide (x < 0)) (digs x.natAbs) (decide (y < 0)) (digs y.natAbs) = _
  unfold gcdS; rw [if_pos ⟨(Rt.of x hx).right, (Rt.of y hy).right⟩, nval_digs, nval_digs]
  exact fitO_big (by simpa using gcd_big hx hy)
theorem divX_nz (hx : x.natAbs < big) (hy : y.natAbs < big) (h0 : y ≠ 0) : divX (nz x) (nz y) = some (x / y, x % y) := by
  show divS (decide (x < 0)) (digs x.natAbs) (decide (y < 0)) (digs y.natAbs) = _
  unfold divS; rw [if_pos ⟨(Rt.of x hx).right, (Rt.of y hy).right, fun e => h0 (by have := digs_nil.1 e; omega)⟩, nval_digs, nval_digs, sgn_dec, sgn_dec]
theorem cmpX_nz (hx : x.natAbs < big) (hy : y.natAbs < big) : cmpX (nz x) (nz y) = cmpI x y := by
  show cmpS (decide (x < 0)) (digs x.natAbs) (decide (y < 0)) (digs y.natAbs) = _
  unfold cmpS; rw [if_pos ⟨(Rt.of x hx).right, (Rt.of y hy).right⟩, nval_digs, nval_digs, sgn_dec, sgn_dec]
theorem intX_nz (hx : x.natAbs < big) : intX (nz x) = fit64 x := intS_val hx
theorem nz_v : sgn (nz x).1 (nval (nz x).2) = x := by
  show sgn (decide (x < 0)) (nval (digs x.natAbs)) = x
  rw [nval_digs, sgn_dec]
theorem nz_a : nval (nz x).2 = x.natAbs := nval_digs _
theorem raw_nz {x : Raw} (h : rightX x = true) (hd : Dig x.2) : ∃ a : Int, x = nz a ∧ a.natAbs < big := by
  obtain ⟨g, l⟩ := x
  obtain ⟨hc, hl, h0⟩ := right_true h hd
  refine ⟨sgn g (nval l), ?_, by rw [sgn_abs]; exact (canon_fits hc).1 hl⟩
  unfold nz
  rw [sgn_abs, ← digs_of hc]
  congr 1
  cases g
  · simp [sgn]
  · have : nval l ≠ 0 := fun h => by have := h0 (canon_zero hc h); cases this
    simp [sgn]; omega
theorem fits_small {x : Int} (h : x.natAbs ≤ 18446744073709551616) : x.natAbs < big := (Rt.small h).2
/-- The value of fields. -/
def vX (x : Raw) : Int := sgn x.1 (nval x.2)
theorem vX_nz : vX (nz x) = x := nz_v
/-- Fractions. -/
def qX (x y : Raw) : Option Rat := ratOf x.1 x.2 y.1 y.2
def rrX (x y : Raw) : Bool := rightR x.1 x.2 y.1 y.2
theorem rrX_eq (a b : Raw) : rrX a b = (rightX a && (rightX b && (decide (0 < vX b) && decide (Nat.gcd (nval a.2) (nval b.2) = 1)))) := rfl
theorem rrX_nz (hx : x.natAbs < big) (hy : y.natAbs < big) : rrX (nz x) (nz y) = (decide (0 < y) && decide (Nat.gcd x.natAbs y.natAbs = 1)) := by
  rw [rrX_eq, rightX_nz hx, rightX_nz hy, vX_nz, nz_a, nz_a, Bool.true_and, Bool.true_and]
/-- The fields of a fraction are those of its parts. -/
theorem qX_some {a b : Raw} (h : rrX a b = true) (ha : Dig a.2) (hb : Dig b.2) : ∃ q : Rat, qX a b = some q ∧ a = nz q.num ∧ b = nz (q.den : Int) ∧ q.num.natAbs < big ∧ q.den < big := by
  obtain ⟨g, l⟩ := a
  obtain ⟨g2, m⟩ := b
  obtain ⟨q, h1, h2, h3, h4, h5, h6, h7, h8, h9⟩ := ratOf_some ha hb h
  refine ⟨q, h1, ?_, ?_, h8, h9⟩
  · unfold nz; rw [← h5, ← h6]
  · refine Prod.ext ?_ ?_
    · exact h4.trans (by simp [nz])
    · show m = digs _
      rw [Int.natAbs_natCast]
      exact h7
theorem qX_none {a b : Raw} (h : rrX a b = false) : qX a b = none := ratOf_none h
theorem rrX_q {q : Rat} (h : q.num.natAbs < big) (h2 : q.den < big) : rrX (nz q.num) (nz (q.den : Int)) = true := by
  rw [rrX_nz h (by simpa using h2)]
  have := q.den_nz
  simp only [Bool.and_eq_true, decide_eq_true_eq]
  exact ⟨by omega, by simpa using q.reduced⟩
theorem qX_q {q : Rat} (h : q.num.natAbs < big) (h2 : q.den < big) : qX (nz q.num) (nz (q.den : Int)) = some q := by
  show (if rrX (nz q.num) (nz (q.den : Int)) = true then some (mkRat (vX (nz q.num)) (nval (nz (q.den : Int)).2)) else none) = some q
  rw [if_pos (rrX_q h h2), vX_nz, nz_a, Int.natAbs_natCast, Rat.mkRat_self]
/-- What Of returns. -/
def ofX (x y : Raw) : Option Rat := if (rightX x && rightX y) = true then ofR (vX x) (vX y) else none
theorem ofX_nz (hx : x.natAbs < big) (hy : y.natAbs < big) : ofX (nz x) (nz y) = ofR x y := by
  unfold ofX; rw [if_pos (by rw [rightX_nz hx, rightX_nz hy]; rfl), vX_nz, vX_nz]
end
section
variable {K : Kit} {P : Program} {F : Fact} {xs : List Raw} {es : List Value} {w0 : World} {f : FuncId} {res : Sh} {i j k l : Nat}
theorem dgN2 (h : Dig (X xs i).2 → Dig (X xs j).2 → Con.sound K P (FN xs es) ⟨f, [NM i, NM j], [], res, []⟩) (hi : i < 50 := by first | assumption | decide) (hj : j < 50 := by first | assumption | decide) : Con.sound K P (FN xs es) ⟨f, [NM i, NM j], [], res, []⟩ := by
  refine ⟨rfl, fun β W vs hs => ?_⟩
  match vs, hs with
  | [a, b], hs =>
    obtain ⟨A, n, c, _, s1⟩ := (NM_is hi).1 hs.1
    obtain ⟨A, n, c, _, s2⟩ := (NM_is hj).1 hs.2.1
    exact (h s1.dig s2.dig).2 β W [a, b] hs
  | [], h => exact h.elim
  | [_], h => exact h.2.elim
  | _ :: _ :: _ :: _, h => exact h.2.2.elim
theorem dgR1 (h : Dig (X xs i).2 → Dig (X xs j).2 → Con.sound K P (FN xs es) ⟨f, [RA i j], [], res, []⟩) (hi : i < 50 := by first | assumption | decide) (hj : j < 50 := by first | assumption | decide) : Con.sound K P (FN xs es) ⟨f, [RA i j], [], res, []⟩ := by
  refine ⟨rfl, fun β W vs hs => ?_⟩
  match vs, hs with
  | [a], hs =>
    obtain ⟨A, n, c, _, _, _, _, s1, s2⟩ := (RA_is hi hj).1 hs.1
    exact (h s1.dig s2.dig).2 β W [a] hs
  | [], h => exact h.elim
  | _ :: _ :: _, h => exact h.2.elim
theorem dgR2 (h : Dig (X xs i).2 → Dig (X xs j).2 → Dig (X xs k).2 → Dig (X xs l).2 → Con.sound K P (FN xs es) ⟨f, [RA i j, RA k l], [], res, []⟩) (hi : i < 50 := by first | assumption | decide) (hj : j < 50 := by first | assumption | decide) (hk : k < 50 := by first | assumption | decide) (hl : l < 50 := by first | assumption | decide) : Con.sound K P (FN xs es) ⟨f, [RA i j, RA k l], [], res, []⟩ := by
  refine ⟨rfl, fun β W vs hs => ?_⟩
  match vs, hs with
  | [a, b], hs =>
    obtain ⟨A, n, c, _, _, _, _, s1, s2⟩ := (RA_is hi hj).1 hs.1
    obtain ⟨A, n, c, _, _, _, _, s3, s4⟩ := (RA_is hk hl).1 hs.2.1
    exact (h s1.dig s2.dig s3.dig s4.dig).2 β W [a, b] hs
  | [], h => exact h.elim
  | [_], h => exact h.2.elim
  | _ :: _ :: _ :: _, h => exact h.2.2.elim
/-- A zero fraction. -/
def ZC : List Lf := [.k (.bool false), .k (.slice none 0 0), .k (.bool false), .k (.slice none 0 0)]
theorem nz_zero : nz 0 = (false, []) := by unfold nz; rw [show Int.natAbs 0 = 0 from rfl, digs_zero]; rfl
theorem ZR_bk {F' : Fact} (h : X xs i = nz 0) (h2 : X xs j = nz 0) (hi : i < 50 := by first | assumption | decide) (hj : j < 50 := by first | assumption | decide) : ∀ (β β' : Loc) v W, (Sh.o (.g ZC)).ok F' β' v W → (RA i j).ok (FN xs es) β v W := by
  rintro β β' v W ⟨vs, rfl, hs⟩
  rw [RA_is hi hj, h, h2, nz_zero]
  refine ⟨none, 0, 0, none, 0, 0, ?_, Sl.none_, Sl.none_⟩
  rw [← Array.toArray_toList (xs := vs)]
  match vs.toList, hs with
  | [a, b, c, d], ⟨h1, h2, h3, h4, _⟩ =>
    rw [show a = _ from h1, show b = _ from h2, show c = _ from h3, show d = _ from h4]
  | [], h => exact h.elim
  | [_], h => exact h.2.elim
  | [_, _], h => exact h.2.2.elim
  | [_, _, _], h => exact h.2.2.2.elim
  | _ :: _ :: _ :: _ :: _ :: _, h => exact h.2.2.2.2.elim
end
theorem mixed : Tryz.prog.follows .mixedOrders = true := by kernel_rfl
end Go.Proofs.YtccjiodohphgnaaGreatDoor

namespace Go.Proofs.YtccjiodohphgnaaGreatDoor
open Go.RowKit Go.Shelf

set_option maxRecDepth 100000 in
set_option maxHeartbeats 1000000 in
theorem refof_any (x : Int) (w : World) (h0 : -9223372036854775808 ≤ x) (h1 : x < 9223372036854775808) : Calls Tryz.prog 36 #[.int .i64 x] w (RetA x w) := by
  have m0 : MX w [(#[.bool false, .slice none 0 0], 26)] (w.alloc (.cells #[.bool false, .slice none 0 0] 26)) := MX.start
  obtain ⟨v, hv⟩ : ∃ v, x.natAbs = v := ⟨_, rfl⟩
  have hvl : v < 18446744073709551616 := by omega
  have hxb : x.natAbs < big := (Rt.small (show x.natAbs ≤ 18446744073709551616 by omega)).2
  have e9 : fitO (sgn (decide (x < 0)) v) = some x := by rw [← hv, sgn_dec, fitO_big hxb]
  have DI := Lib.hid (fun (W : World) => refdigits_any v W hvl)
  have SI := Lib.hid (fun (W : World) (A : Option Addr) (n c : Nat) (hs : Sl W W.heap.size A n c (digs v)) => signed_any A n c W.heap.size v (decide (x < 0)) _ W hs (Nat.le_refl _) (nval_digs v))
  rw [e9] at SI
  rcases Int.lt_or_le x 0 with hn | hn
  · have hd : decide (x < 0) = true := decide_eq_true hn
    have e1 : IntKind.u64.wrap (-IntKind.u64.wrap x) = (v : Int) := by rw [IntKind.wrap_u64, IntKind.wrap_u64]; omega
    
    rw [hd] at SI
    clear e9
    go_enter Tryz.func36, Tryz.ntmps36
    go_wp2_with (first
      | (go_at_call 77; go_loud ((first | rw [e1] | skip); refine (DI.out _).mono ?_; rintro e w1 ⟨A, n, c, rfl, hs, hb⟩; have m1 := m0.via hb))
      | (go_at_call 76; go_loud ((with_reducible refine (SI.out _ _ _ _ hs).mono ?_); rintro e w2 hr; obtain ⟨A2, n2, c2, rfl, hs2, hb2⟩ := retN_some hr; have m2 := m1.via hb2; have r0 : w2.cell? ⟨w.heap.size, 0, none⟩ = some (.bool false) := m2.cell (i := 0) rfl rfl; have r1 : w2.cell? ⟨w.heap.size, 1, none⟩ = some (.slice none 0 0) := m2.cell (i := 0) rfl rfl; have rf : ∀ j, w2.frozen? ⟨w.heap.size, j, none⟩ = false := (fun j => m2.frozen (i := 0) rfl j); have rz : w.heap.size < w2.heap.size := m2.lt (i := 0) (by simp)))
      | fail "no arm")
    obtain ⟨q0, q1⟩ := put2_cells (.bool true) (.slice A2 n2 c2) r0 r1
    have s3 := hs2.stored r0 r1 (.bool true) (.slice A2 n2 c2)
    have b3 := (m2.below.setCell (p := ⟨w.heap.size, 0, none⟩) (Nat.le_refl _) (.bool true)).setCell (p := ⟨w.heap.size, 1, none⟩) (Nat.le_refl _) (.slice A2 n2 c2)
    have hz3 : w.heap.size < ((w2.setCell ⟨w.heap.size, 0, none⟩ (.bool true)).setCell ⟨w.heap.size, 1, none⟩ (.slice A2 n2 c2)).heap.size := by simp [World.setCell]; omega
    obtain ⟨W3, hW3⟩ : ∃ W3, (w2.setCell ⟨w.heap.size, 0, none⟩ (.bool true)).setCell ⟨w.heap.size, 1, none⟩ (.slice A2 n2 c2) = W3 := ⟨_, rfl⟩
    rw [hW3] at q0 q1 s3 b3 hz3 ⊢
    have k0 := (World.cell?_alloc_lt W3 (.cells #[.bool true, .slice A2 n2 c2] 26) ⟨w.heap.size, 0, none⟩ hz3).trans q0
    have k1 := (World.cell?_alloc_lt W3 (.cells #[.bool true, .slice A2 n2 c2] 26) ⟨w.heap.size, 1, none⟩ hz3).trans q1
    refine bodyPost_ret (v := .agg #[.bool true, .slice A2 n2 c2]) ?_ rfl ⟨A2, n2, c2, by rw [hd], s3.via ((Below.refl _ _).alloc (Nat.le_refl _) _), b3.alloc b3.size _⟩
    clear k0 k1
    simp [results, Tryz.f36, go_sem, q0, q1, hz3]
  · have hd : decide (x < 0) = false := decide_eq_false (by omega)
    have e1 : IntKind.u64.wrap x = (v : Int) := by rw [IntKind.wrap_u64]; omega
    have hn2 : ¬ x < 0 := by omega
    rw [hd] at SI
    clear e9
    go_enter Tryz.func36, Tryz.ntmps36
    go_wp2_with (first
      | (go_at_call 77; go_loud ((first | rw [e1] | skip); refine (DI.out _).mono ?_; rintro e w1 ⟨A, n, c, rfl, hs, hb⟩; have m1 := m0.via hb))
      | (go_at_call 76; go_loud ((with_reducible refine (SI.out _ _ _ _ hs).mono ?_); rintro e w2 hr; obtain ⟨A2, n2, c2, rfl, hs2, hb2⟩ := retN_some hr; have m2 := m1.via hb2; have r0 : w2.cell? ⟨w.heap.size, 0, none⟩ = some (.bool false) := m2.cell (i := 0) rfl rfl; have r1 : w2.cell? ⟨w.heap.size, 1, none⟩ = some (.slice none 0 0) := m2.cell (i := 0) rfl rfl; have rf : ∀ j, w2.frozen? ⟨w.heap.size, j, none⟩ = false := (fun j => m2.frozen (i := 0) rfl j); have rz : w.heap.size < w2.heap.size := m2.lt (i := 0) (by simp)))
      | fail "no arm")
    obtain ⟨q0, q1⟩ := put2_cells (.bool false) (.slice A2 n2 c2) r0 r1
    have s3 := hs2.stored r0 r1 (.bool false) (.slice A2 n2 c2)
    have b3 := (m2.below.setCell (p := ⟨w.heap.size, 0, none⟩) (Nat.le_refl _) (.bool false)).setCell (p := ⟨w.heap.size, 1, none⟩) (Nat.le_refl _) (.slice A2 n2 c2)
    have hz3 : w.heap.size < ((w2.setCell ⟨w.heap.size, 0, none⟩ (.bool false)).setCell ⟨w.heap.size, 1, none⟩ (.slice A2 n2 c2)).heap.size := by simp [World.setCell]; omega
    obtain ⟨W3, hW3⟩ : ∃ W3, (w2.setCell ⟨w.heap.size, 0, none⟩ (.bool false)).setCell ⟨w.heap.size, 1, none⟩ (.slice A2 n2 c2) = W3 := ⟨_, rfl⟩
    rw [hW3] at q0 q1 s3 b3 hz3 ⊢
    have k0 := (World.cell?_alloc_lt W3 (.cells #[.bool false, .slice A2 n2 c2] 26) ⟨w.heap.size, 0, none⟩ hz3).trans q0
    have k1 := (World.cell?_alloc_lt W3 (.cells #[.bool false, .slice A2 n2 c2] 26) ⟨w.heap.size, 1, none⟩ hz3).trans q1
    refine bodyPost_ret (v := .agg #[.bool false, .slice A2 n2 c2]) ?_ rfl ⟨A2, n2, c2, by rw [hd], s3.via ((Below.refl _ _).alloc (Nat.le_refl _) _), b3.alloc b3.size _⟩
    clear k0 k1
    simp [results, Tryz.f36, go_sem, q0, q1, hz3]
end Go.Proofs.YtccjiodohphgnaaGreatDoor

namespace Go.Proofs.YtccjiodohphgnaaGreatDoor
open Go.RowKit Go.Shelf

theorem zero_p {w0 : World}  : Con.sound (KN w0) Tryz.prog (FN [nz 0] []) ⟨65, [], [], NM 0, []⟩ :=
  con_ok (C := [(1, .call ⟨34, [LF (.k (.int .i64 0))], [], NM 0, []⟩)]) 0 (fine_FN rfl) ⟨c_of gives_k (by decide) (by decide) rfl, trivial⟩ mixed (by kernel_rfl)
theorem c_zero {xs : List Raw} {es : List Value} {w0 : World} {k : Nat} (h : X xs k = nz 0) (hk : k < 50 := by first | assumption | decide) : Con.sound (KN w0) Tryz.prog (FN xs es) ⟨65, [], [], NM k, []⟩ := tr zero_p sh0 (NM_bk h.symm)
theorem one_p {w0 : World}  : Con.sound (KN w0) Tryz.prog (FN [nz 1] []) ⟨67, [], [], NM 0, []⟩ :=
  con_ok (C := [(1, .call ⟨34, [LF (.k (.int .i64 1))], [], NM 0, []⟩)]) 0 (fine_FN rfl) ⟨c_of gives_k (by decide) (by decide) rfl, trivial⟩ mixed (by kernel_rfl)
theorem c_one {xs : List Raw} {es : List Value} {w0 : World} {k : Nat} (h : X xs k = nz 1) (hk : k < 50 := by first | assumption | decide) : Con.sound (KN w0) Tryz.prog (FN xs es) ⟨67, [], [], NM k, []⟩ := tr one_p sh0 (NM_bk h.symm)
theorem c_refof {xs : List Raw} {es : List Value} {w0 : World} {k : Nat} {a : Lf} {x : Int} (ha : Gives (FN xs es) a (.int .i64 x)) (h0 : -9223372036854775808 ≤ x) (h1 : x < 9223372036854775808) (h : X xs k = nz x) (hk : k < 50 := by first | assumption | decide) : Con.sound (KN w0) Tryz.prog (FN xs es) ⟨36, [LF a], [], NM k, []⟩ := by
  refine con_of fun β W vs hs _ => ?_
  match vs, hs with
  | [v], ⟨hv, _⟩ =>
    have := (ha β v W).1 hv
    subst this
    refine (refof_any x W h0 h1).mono fun e W' hr => ?_
    obtain ⟨A, n, c, rfl, s, hb⟩ := hr
    exact ⟨_, rfl, (NM_is hk).2 (by rw [h]; exact ⟨A, n, c, rfl, s⟩), hb⟩
  | [], h => exact h.elim
  | _ :: _ :: _, h => exact h.2.elim
theorem whole_p {w0 : World} (x : Int) (h0 : -9223372036854775808 ≤ x) (h1 : x < 9223372036854775808) : Con.sound (KN w0) Tryz.prog (FN [nz x] [.int .i64 x]) ⟨55, [LF (.h 100)], [], NM 0, []⟩ :=
  con_ok (C := [(4, .call ⟨36, [LF (.h 100)], [], NM 0, []⟩)]) 0 (fine_FN rfl) ⟨c_refof (gives_e (k := 0) rfl) h0 h1 rfl, trivial⟩ mixed (by kernel_rfl)
theorem c_whole {xs : List Raw} {es : List Value} {w0 : World} {k : Nat} {a : Lf} {x : Int} (ha : Gives (FN xs es) a (.int .i64 x)) (h0 : -9223372036854775808 ≤ x) (h1 : x < 9223372036854775808) (h : X xs k = nz x) (hk : k < 50 := by first | assumption | decide) : Con.sound (KN w0) Tryz.prog (FN xs es) ⟨55, [LF a], [], NM k, []⟩ := tr (whole_p x h0 h1) (sh1 (LF_mv ha (gives_e (k := 0) rfl))) (NM_bk h.symm)
theorem minus_p {w0 : World} (x : Raw) : Con.sound (KN w0) Tryz.prog (FN [x, nz 0, nz (vO (subX (nz 0) x))] [.bool (okO (subX (nz 0) x))]) ⟨61, [NM 0], [], NM 2, []⟩ :=
  con_ok (C := [(6, .call ⟨65, [], [], NM 1, []⟩),
    (8, .call ⟨92, [NM 1, NM 0], [], .t [.g (nm 2), .c (.h 100)], []⟩)]) 0 (fine_FN rfl) ⟨c_zero rfl, c_sub rfl (gives_e (k := 0) rfl), trivial⟩ mixed (by kernel_rfl)
theorem opposite_p {w0 : World} (x : Raw) : Con.sound (KN w0) Tryz.prog (FN [x, nz 0, nz (vO (subX (nz 0) x))] [.bool (okO (subX (nz 0) x))]) ⟨62, [NM 0], [], NM 2, []⟩ :=
  con_ok (C := [(6, .call ⟨55, [LF (.k (.int .i64 0))], [], NM 1, []⟩),
    (8, .call ⟨93, [NM 1, NM 0], [], .t [.g (nm 2), .c (.h 100)], []⟩)]) 0 (fine_FN rfl) ⟨c_whole gives_k (by decide) (by decide) rfl, c_refsub rfl (gives_e (k := 0) rfl), trivial⟩ mixed (by kernel_rfl)
theorem c_minus {xs : List Raw} {es : List Value} {w0 : World} {i k : Nat} (h : X xs k = nz (vO (subX (nz 0) (X xs i)))) (hi : i < 50 := by first | assumption | decide) (hk : k < 50 := by first | assumption | decide) : Con.sound (KN w0) Tryz.prog (FN xs es) ⟨61, [NM i], [], NM k, []⟩ := tr (minus_p (X xs i)) (sh1 (NM_mv rfl)) (NM_bk h.symm)
theorem c_opposite {xs : List Raw} {es : List Value} {w0 : World} {i k : Nat} (h : X xs k = nz (vO (subX (nz 0) (X xs i)))) (hi : i < 50 := by first | assumption | decide) (hk : k < 50 := by first | assumption | decide) : Con.sound (KN w0) Tryz.prog (FN xs es) ⟨62, [NM i], [], NM k, []⟩ := tr (opposite_p (X xs i)) (sh1 (NM_mv rfl)) (NM_bk h.symm)
theorem quotient_p {w0 : World} (x y : Raw) : Con.sound (KN w0) Tryz.prog (FN [x, y, nz (dqO (divX x y)), nz (drO (divX x y))] [.bool (divX x y).isSome]) ⟨79, [NM 0, NM 1], [], NM 2, []⟩ :=
  con_ok (C := [(11, .call ⟨64, [NM 0, NM 1], [], .t [.g (nm 2), .g (nm 3), .c (.h 100)], []⟩)]) 0 (fine_FN rfl) ⟨c_div rfl rfl (gives_e (k := 0) rfl), trivial⟩ mixed (by kernel_rfl)
theorem c_quotient {xs : List Raw} {es : List Value} {w0 : World} {i j k : Nat} (h : X xs k = nz (dqO (divX (X xs i) (X xs j)))) (hi : i < 50 := by first | assumption | decide) (hj : j < 50 := by first | assumption | decide) (hk : k < 50 := by first | assumption | decide) : Con.sound (KN w0) Tryz.prog (FN xs es) ⟨79, [NM i, NM j], [], NM k, []⟩ := tr (quotient_p (X xs i) (X xs j)) (sh2 (NM_mv rfl) (NM_mv rfl)) (NM_bk h.symm)
theorem refover_p {w0 : World} (x y : Raw) : Con.sound (KN w0) Tryz.prog (FN [x, y, nz (dqO (divX x y)), nz (drO (divX x y))] [.bool (divX x y).isSome]) ⟨81, [NM 0, NM 1], [], NM 2, []⟩ :=
  con_ok (C := [(11, .call ⟨66, [NM 0, NM 1], [], .t [.g (nm 2), .g (nm 3), .c (.h 100)], []⟩)]) 0 (fine_FN rfl) ⟨c_refdiv rfl rfl (gives_e (k := 0) rfl), trivial⟩ mixed (by kernel_rfl)
theorem c_refover {xs : List Raw} {es : List Value} {w0 : World} {i j k : Nat} (h : X xs k = nz (dqO (divX (X xs i) (X xs j)))) (hi : i < 50 := by first | assumption | decide) (hj : j < 50 := by first | assumption | decide) (hk : k < 50 := by first | assumption | decide) : Con.sound (KN w0) Tryz.prog (FN xs es) ⟨81, [NM i, NM j], [], NM k, []⟩ := tr (refover_p (X xs i) (X xs j)) (sh2 (NM_mv rfl) (NM_mv rfl)) (NM_bk h.symm)
theorem c_right2 {xs : List Raw} {es : List Value} {w0 : World} {b i j : Nat} {o : Lf} (hes : es.all (KN w0).ck = true) (ho : Gives (FN xs es) o (.bool (rightX (X xs i) && rightX (X xs j)))) (hi : i < 50 := by first | assumption | decide) (hj : j < 50 := by first | assumption | decide) : Con.sound (KN w0) Tryz.prog (FN xs es) ⟨82, [LF (.s b 0 2 2)], [.bx b 26 (nm i ++ nm j)], LF o, [.bx b 26 (nm i ++ nm j)]⟩ := by
  refine ⟨rfl, fun β W vs hs hb hg => ?_⟩
  match vs, hs with
  | [v], ⟨⟨q, hq, hv⟩, _⟩ =>
    subst hv
    have hbox := hb _ (List.mem_cons_self ..)
    have hbox2 := hbox
    obtain ⟨q', cs, hq', hh, hl, _, _, _⟩ := hbox2
    have e : q' = q := by rw [hq] at hq'; exact (Option.some.inj hq').symm
    subst e
    rw [nm_oks hi, show nm j = nm j ++ [] by simp] at hl
    obtain ⟨A, n, c, us, e1, s1, hl⟩ := hl
    rw [nm_oks hj] at hl
    obtain ⟨A2, n2, c2, us2, e2, s2, hl⟩ := hl
    rw [oks_nil] at hl
    subst hl; subst e2
    have hc : ∀ k u, cs.toList[k]? = some u → W.cell? ⟨q', k, none⟩ = some u := fun k u hu => by rw [cell_of hh]; simpa using hu
    rw [e1] at hc
    refine (ratright_any ⟨hc 0 _ rfl, hc 1 _ rfl, hc 2 _ rfl, hc 3 _ rfl, hg.lt b q' hq⟩ s1 s2).mono fun e W' hr => ?_
    obtain ⟨rfl, hbl⟩ := hr
    have hO : Oth (fun _ => False) W W' := Oth.ofBelow hbl
    refine ⟨_, β, rfl, (ho β _ W').2 rfl, hO.mono fun _ h => h.elim, fun x hx => ?_, fun b _ => Loc.same.rfl, fun _ h => h, fun _ h => .inl h, fun b h => (by cases h), hg.mono (fun _ h => h.elim) hO⟩
    rw [List.mem_singleton] at hx
    subst hx
    exact Box.mv (fine_FN hes) (fun _ h => h.elim) hO (fun _ h => h) (fun _ _ => Loc.same.rfl) hbox (fun _ _ h => h.elim)
  | [], h => exact h.elim
  | _ :: _ :: _, h => exact h.2.elim
theorem rright_a {w0 : World} (x y : Raw) (h : (rightX x && rightX y) = false) : Con.sound (KN w0) Tryz.prog (FN [x, y] [.bool (rightX x && rightX y)]) ⟨43, [RA 0 1], [], LF (.k (.bool false)), []⟩ :=
  con_ok (C := [(10, .call ⟨82, [LF (.s 6 0 2 2)], [.bx 6 26 (nm 0 ++ nm 1)], LF (.h 100), [.bx 6 26 (nm 0 ++ nm 1)]⟩),
    (10100, .fb 100 false)]) 0 (fine_FN rfl) ⟨c_right2 rfl (gives_e (k := 0) rfl), c_fb (gives_e (k := 0) (congrArg Value.bool h)), trivial⟩ mixed (by kernel_rfl)
theorem rright_b {w0 : World} (x y : Raw) (h : (rightX x && rightX y) = true) (h2 : decide (cmpX y (nz 0) ≤ 0) = true) : Con.sound (KN w0) Tryz.prog (FN [x, y, nz 0] [.bool (rightX x && rightX y), .int .i64 (cmpX y (nz 0))]) ⟨43, [RA 0 1], [], LF (.k (.bool false)), []⟩ :=
  con_ok (C := [(10, .call ⟨82, [LF (.s 6 0 2 2)], [.bx 6 26 (nm 0 ++ nm 1)], LF (.h 100), [.bx 6 26 (nm 0 ++ nm 1)]⟩),
    (10100, .fb 100 true),
    (15, .call ⟨65, [], [], NM 2, []⟩),
    (16, .call ⟨33, [NM 1, NM 2], [], LF (.h 101), []⟩),
    (17, .bin .leq 3 (LF (.h 101)) (LF (.k (.int .i64 0))) (LF (.k (.bool true))))]) 0 (fine_FN rfl) ⟨c_right2 rfl (gives_e (k := 0) rfl), c_fb (gives_e (k := 0) (congrArg Value.bool h)), c_zero rfl, c_cmp (gives_e (k := 1) rfl), c_bin (gives_e (k := 1) rfl) gives_k (congrArg some h2) gives_k, trivial⟩ mixed (by kernel_rfl)
theorem rright_c {w0 : World} (x y : Raw) (h : (rightX x && rightX y) = true) (h2 : decide (cmpX y (nz 0) ≤ 0) = false) : Con.sound (KN w0) Tryz.prog (FN [x, y, nz 0, nz (vO (gcdX x y)), nz 1] [.bool (rightX x && rightX y), .int .i64 (cmpX y (nz 0)), .bool (okO (gcdX x y)), .int .i64 (cmpX (nz (vO (gcdX x y))) (nz 1)), .bool (cmpX (nz (vO (gcdX x y))) (nz 1) == 0)]) ⟨43, [RA 0 1], [], LF (.h 104), []⟩ :=
  con_ok (C := [(10, .call ⟨82, [LF (.s 6 0 2 2)], [.bx 6 26 (nm 0 ++ nm 1)], LF (.h 100), [.bx 6 26 (nm 0 ++ nm 1)]⟩),
    (10100, .fb 100 true),
    (15, .call ⟨65, [], [], NM 2, []⟩),
    (16, .call ⟨33, [NM 1, NM 2], [], LF (.h 101), []⟩),
    (17, .bin .leq 3 (LF (.h 101)) (LF (.k (.int .i64 0))) (LF (.k (.bool false)))),
    (24, .call ⟨83, [NM 0, NM 1], [], .t [.g (nm 3), .c (.h 102)], []⟩),
    (28, .call ⟨67, [], [], NM 4, []⟩),
    (29, .call ⟨33, [NM 3, NM 4], [], LF (.h 103), []⟩),
    (30, .bin .eql 3 (LF (.h 103)) (LF (.k (.int .i64 0))) (LF (.h 104)))]) 0 (fine_FN rfl) ⟨c_right2 rfl (gives_e (k := 0) rfl), c_fb (gives_e (k := 0) (congrArg Value.bool h)), c_zero rfl, c_cmp (gives_e (k := 1) rfl), c_bin (gives_e (k := 1) rfl) gives_k (congrArg some h2) gives_k, c_gcd rfl (gives_e (k := 2) rfl), c_one rfl, c_cmp (gives_e (k := 3) rfl), c_bin (gives_e (k := 3) rfl) gives_k rfl (gives_e (k := 4) rfl), trivial⟩ mixed (by kernel_rfl)
theorem le_zero {b : Int} (hb : b.natAbs < big) : decide (cmpX (nz b) (nz 0) ≤ 0) = !decide (0 < b) := by
  rw [cmpX_nz hb (fits_small (by decide))]
  unfold cmpI
  by_cases h : b < 0
  · rw [if_pos h]; simp; omega
  · rw [if_neg h]
    by_cases h2 : 0 < b
    · rw [if_pos h2]; simp [h2]
    · rw [if_neg h2]; simp; omega
theorem one_eq {v : Nat} (hv : v < big) : (cmpX (nz (v : Int)) (nz 1) == 0) = decide (v = 1) := by
  rw [cmpX_nz (by simpa using hv) (fits_small (by decide))]
  unfold cmpI
  by_cases h : (v : Int) < 1
  · rw [if_pos h, decide_eq_false (by omega)]; rfl
  · rw [if_neg h]
    by_cases h2 : 1 < (v : Int)
    · rw [if_pos h2, decide_eq_false (by omega)]; rfl
    · rw [if_neg h2, decide_eq_true (by omega)]; rfl
theorem c_rright {xs : List Raw} {es : List Value} {w0 : World} {i j : Nat} {o : Lf} (ho : Gives (FN xs es) o (.bool (rrX (X xs i) (X xs j)))) (hi : i < 50 := by first | assumption | decide) (hj : j < 50 := by first | assumption | decide) : Con.sound (KN w0) Tryz.prog (FN xs es) ⟨43, [RA i j], [], LF o, []⟩ := by
  refine dgR1 (fun d1 d2 => ?_) hi hj
  cases h : rightX (X xs i) && rightX (X xs j) with
  | false =>
    have e : rrX (X xs i) (X xs j) = false := by rw [rrX_eq, ← Bool.and_assoc, h]; rfl
    rw [e] at ho
    exact tr (rright_a _ _ h) (sh1 (RA_mv rfl rfl hi hj)) (LF_bk ho gives_k)
  | true =>
    have h' := h
    rw [Bool.and_eq_true] at h'
    obtain ⟨a, ea, ha⟩ := raw_nz h'.1 d1
    obtain ⟨b, eb, hb⟩ := raw_nz h'.2 d2
    rw [ea, eb, rrX_nz ha hb] at ho
    cases h2 : decide (cmpX (X xs j) (nz 0) ≤ 0) with
    | true =>
      have h3 := h2
      rw [eb, le_zero hb] at h3
      have e : decide (0 < b) = false := by simpa using h3
      rw [e, Bool.false_and] at ho
      exact tr (rright_b _ _ h h2) (sh1 (RA_mv rfl rfl hi hj)) (LF_bk ho gives_k)
    | false =>
      have h3 := h2
      rw [eb, le_zero hb] at h3
      have e : decide (0 < b) = true := by simpa using h3
      rw [e, Bool.true_and, ← one_eq (gcd_big ha hb)] at ho
      refine tr (rright_c _ _ h h2) (sh1 (RA_mv rfl rfl hi hj)) (LF_bk ho (gives_e (k := 4) ?_))
      show Value.bool (cmpX (nz (vO (gcdX (X xs i) (X xs j)))) (nz 1) == 0) = _
      rw [ea, eb, gcdX_nz ha hb]; rfl
end Go.Proofs.YtccjiodohphgnaaGreatDoor

namespace Go.Proofs.YtccjiodohphgnaaGreatDoor
open Go.RowKit Go.Shelf

theorem gives_n {xs : List Raw} {es : List Value} {i : Nat} {b : Bool} (h : (X xs i).1 = b) (hi : i < 50 := by first | assumption | decide) : Gives (FN xs es) (.h (2 * i)) (.bool b) := fun β v W => by
  show FNc xs es (2 * i) v W β.D ↔ _
  unfold FNc; rw [if_neg (by omega), if_pos (by omega), show 2 * i / 2 = i by omega, h]
theorem lt_one {b : Int} (hb : b.natAbs < big) : decide (cmpX (nz b) (nz 1) < 0) = !decide (0 < b) := by
  rw [cmpX_nz hb (fits_small (by decide))]
  unfold cmpI
  by_cases h : b < 1
  · rw [if_pos h]; simp; omega
  · rw [if_neg h]
    by_cases h2 : 1 < b
    · rw [if_pos h2]; simp; omega
    · rw [if_neg h2]; simp; omega
theorem eq_zero {b : Int} (hb : b.natAbs < big) : (cmpX (nz b) (nz 0) == 0) = decide (b = 0) := by
  rw [cmpX_nz hb (fits_small (by decide))]
  unfold cmpI
  by_cases h : b < 0
  · rw [if_pos h, decide_eq_false (by omega)]; rfl
  · rw [if_neg h]
    by_cases h2 : 0 < b
    · rw [if_pos h2, decide_eq_false (by omega)]; rfl
    · rw [if_neg h2, decide_eq_true (by omega)]; rfl
theorem lt_zero {b : Int} (hb : b.natAbs < big) : decide (cmpX (nz b) (nz 0) < 0) = decide (b < 0) := by
  rw [cmpX_nz hb (fits_small (by decide))]
  unfold cmpI
  by_cases h : b < 0
  · rw [if_pos h]; simp [h]
  · rw [if_neg h]
    by_cases h2 : 0 < b
    · rw [if_pos h2]; simp; omega
    · rw [if_neg h2]; simp; omega
/-- The parts of a fraction. -/
theorem ofR_parts {x y : Int} (hy : y ≠ 0) : ∃ q, ofR x y = some q ∧ q.num = (if y < 0 then -x else x) / ((Nat.gcd x.natAbs y.natAbs : Nat) : Int) ∧ q.den = y.natAbs / Nat.gcd x.natAbs y.natAbs := by
  obtain ⟨q, h1, h2, h3⟩ := ofR_sgn (x := x) (g := decide (y < 0)) (d := y.natAbs) (by omega)
  rw [sgn_dec] at h1
  refine ⟨q, h1, ?_, h3⟩
  rw [h2]
  congr 1
  by_cases h : y < 0 <;> simp [h]
theorem gcd_pos {x y : Int} (hy : y ≠ 0) : ((Nat.gcd x.natAbs y.natAbs : Nat) : Int) ≠ 0 := by
  have := gcd_ne (x := x) (d := y.natAbs) (by omega)
  omega
theorem gcd_bigI {x y : Int} (hx : x.natAbs < big) (hy : y.natAbs < big) : (((Nat.gcd x.natAbs y.natAbs : Nat) : Int)).natAbs < big := by simpa using gcd_big hx hy
theorem neg_fit {x : Int} (hx : x.natAbs < big) : nz (vO (subX (nz 0) (nz x))) = nz (-x) := by
  rw [subX_nz (fits_small (by decide)) hx, fitO_big (by omega), Int.zero_sub]; rfl
theorem div_big {x : Int} {v : Nat} (hx : x.natAbs < big) : (x / (v : Int)).natAbs < big := by
  refine Nat.lt_of_le_of_lt ?_ hx
  rw [show (x / (v : Int)) = x.ediv v from rfl] at *
  exact Int.natAbs_ediv_le_natAbs x v
theorem refright_a {w0 : World} (x y : Raw) (h : rightX x = false) : Con.sound (KN w0) Tryz.prog (FN [x, y] [.bool (rightX x), .bool (rightX y)]) ⟨44, [RA 0 1], [], LF (.k (.bool false)), []⟩ :=
  con_ok (C := [(7, .call ⟨84, [NM 0], [], LF (.h 100), []⟩),
    (10100, .fb 100 false)]) 0 (fine_FN rfl) ⟨c_refright (gives_e (k := 0) rfl), c_fb (gives_e (k := 0) (congrArg Value.bool h)), trivial⟩ mixed (by kernel_rfl)
theorem refright_b {w0 : World} (x y : Raw) (h : rightX x = true) (h1 : rightX y = false) : Con.sound (KN w0) Tryz.prog (FN [x, y] [.bool (rightX x), .bool (rightX y)]) ⟨44, [RA 0 1], [], LF (.k (.bool false)), []⟩ :=
  con_ok (C := [(7, .call ⟨84, [NM 0], [], LF (.h 100), []⟩),
    (12, .call ⟨84, [NM 1], [], LF (.h 101), []⟩),
    (10100, .fb 100 true),
    (10101, .fb 101 false)]) 0 (fine_FN rfl) ⟨c_refright (gives_e (k := 0) rfl), c_refright (gives_e (k := 1) rfl), c_fb (gives_e (k := 0) (congrArg Value.bool h)), c_fb (gives_e (k := 1) (congrArg Value.bool h1)), trivial⟩ mixed (by kernel_rfl)
theorem refright_c {w0 : World} (x y : Raw) (h : rightX x = true) (h1 : rightX y = true) (h2 : decide (cmpX y (nz 1) < 0) = true) : Con.sound (KN w0) Tryz.prog (FN [x, y, nz 1] [.bool (rightX x), .bool (rightX y), .int .i64 (cmpX y (nz 1))]) ⟨44, [RA 0 1], [], LF (.k (.bool false)), []⟩ :=
  con_ok (C := [(7, .call ⟨84, [NM 0], [], LF (.h 100), []⟩),
    (12, .call ⟨84, [NM 1], [], LF (.h 101), []⟩),
    (10100, .fb 100 true),
    (10101, .fb 101 true),
    (18, .call ⟨55, [LF (.k (.int .i64 1))], [], NM 2, []⟩),
    (19, .call ⟨54, [NM 1, NM 2], [], LF (.h 102), []⟩),
    (20, .bin .lss 3 (LF (.h 102)) (LF (.k (.int .i64 0))) (LF (.k (.bool true))))]) 0 (fine_FN rfl) ⟨c_refright (gives_e (k := 0) rfl), c_refright (gives_e (k := 1) rfl), c_fb (gives_e (k := 0) (congrArg Value.bool h)), c_fb (gives_e (k := 1) (congrArg Value.bool h1)), c_whole gives_k (by decide) (by decide) rfl, c_refcmp (gives_e (k := 2) rfl), c_bin (gives_e (k := 2) rfl) gives_k (congrArg some h2) gives_k, trivial⟩ mixed (by kernel_rfl)
theorem refright_d {w0 : World} (x y : Raw) (h : rightX x = true) (h1 : rightX y = true) (h2 : decide (cmpX y (nz 1) < 0) = false) : Con.sound (KN w0) Tryz.prog (FN [x, y, nz 1, nz (vO (gcdX x y))] [.bool (rightX x), .bool (rightX y), .int .i64 (cmpX y (nz 1)), .bool (okO (gcdX x y)), .int .i64 (cmpX (nz (vO (gcdX x y))) (nz 1)), .bool (cmpX (nz (vO (gcdX x y))) (nz 1) == 0)]) ⟨44, [RA 0 1], [], LF (.h 105), []⟩ :=
  con_ok (C := [(7, .call ⟨84, [NM 0], [], LF (.h 100), []⟩),
    (12, .call ⟨84, [NM 1], [], LF (.h 101), []⟩),
    (10100, .fb 100 true),
    (10101, .fb 101 true),
    (18, .call ⟨55, [LF (.k (.int .i64 1))], [], NM 2, []⟩),
    (19, .call ⟨54, [NM 1, NM 2], [], LF (.h 102), []⟩),
    (20, .bin .lss 3 (LF (.h 102)) (LF (.k (.int .i64 0))) (LF (.k (.bool false)))),
    (27, .call ⟨85, [NM 0, NM 1], [], .t [.g (nm 3), .c (.h 103)], []⟩),
    (31, .call ⟨55, [LF (.k (.int .i64 1))], [], NM 2, []⟩),
    (32, .call ⟨54, [NM 3, NM 2], [], LF (.h 104), []⟩),
    (33, .bin .eql 3 (LF (.h 104)) (LF (.k (.int .i64 0))) (LF (.h 105)))]) 0 (fine_FN rfl) ⟨c_refright (gives_e (k := 0) rfl), c_refright (gives_e (k := 1) rfl), c_fb (gives_e (k := 0) (congrArg Value.bool h)), c_fb (gives_e (k := 1) (congrArg Value.bool h1)), c_whole gives_k (by decide) (by decide) rfl, c_refcmp (gives_e (k := 2) rfl), c_bin (gives_e (k := 2) rfl) gives_k (congrArg some h2) gives_k, c_refgcd rfl (gives_e (k := 3) rfl), c_whole gives_k (by decide) (by decide) rfl, c_refcmp (gives_e (k := 4) rfl), c_bin (gives_e (k := 4) rfl) gives_k rfl (gives_e (k := 5) rfl), trivial⟩ mixed (by kernel_rfl)
theorem c_refrright {xs : List Raw} {es : List Value} {w0 : World} {i j : Nat} {o : Lf} (ho : Gives (FN xs es) o (.bool (rrX (X xs i) (X xs j)))) (hi : i < 50 := by first | assumption | decide) (hj : j < 50 := by first | assumption | decide) : Con.sound (KN w0) Tryz.prog (FN xs es) ⟨44, [RA i j], [], LF o, []⟩ := by
  refine dgR1 (fun d1 d2 => ?_) hi hj
  rw [rrX_eq] at ho
  cases h : rightX (X xs i) with
  | false =>
    rw [h, Bool.false_and] at ho
    exact tr (refright_a _ _ h) (sh1 (RA_mv rfl rfl hi hj)) (LF_bk ho gives_k)
  | true =>
    cases h1 : rightX (X xs j) with
    | false =>
      rw [h, h1, Bool.false_and, Bool.and_false] at ho
      exact tr (refright_b _ _ h h1) (sh1 (RA_mv rfl rfl hi hj)) (LF_bk ho gives_k)
    | true =>
      obtain ⟨a, ea, ha⟩ := raw_nz h d1
      obtain ⟨b, eb, hb⟩ := raw_nz h1 d2
      rw [← rrX_eq, ea, eb, rrX_nz ha hb] at ho
      cases h2 : decide (cmpX (X xs j) (nz 1) < 0) with
      | true =>
        have h3 := h2
        rw [eb, lt_one hb] at h3
        have e : decide (0 < b) = false := by simpa using h3
        rw [e, Bool.false_and] at ho
        exact tr (refright_c _ _ h h1 h2) (sh1 (RA_mv rfl rfl hi hj)) (LF_bk ho gives_k)
      | false =>
        have h3 := h2
        rw [eb, lt_one hb] at h3
        have e : decide (0 < b) = true := by simpa using h3
        rw [e, Bool.true_and, ← one_eq (gcd_big ha hb)] at ho
        refine tr (refright_d _ _ h h1 h2) (sh1 (RA_mv rfl rfl hi hj)) (LF_bk ho (gives_e (k := 5) ?_))
        show Value.bool (cmpX (nz (vO (gcdX (X xs i) (X xs j)))) (nz 1) == 0) = _
        rw [ea, eb, gcdX_nz ha hb]; rfl
theorem of_a {w0 : World} (x y : Raw) (h : (rightX x && rightX y) = false) : Con.sound (KN w0) Tryz.prog (FN [x, y] [.bool (rightX x && rightX y)]) ⟨46, [NM 0, NM 1], [], .t [.g ZC, .c (.k (.bool false))], []⟩ :=
  con_ok (C := [(11, .call ⟨82, [LF (.s 6 0 2 2)], [.bx 6 26 (nm 0 ++ nm 1)], LF (.h 100), [.bx 6 26 (nm 0 ++ nm 1)]⟩),
    (10100, .fb 100 false)]) 0 (fine_FN rfl) ⟨c_right2 rfl (gives_e (k := 0) rfl), c_fb (gives_e (k := 0) (congrArg Value.bool h)), trivial⟩ mixed (by kernel_rfl)
theorem of_b {w0 : World} (x y : Raw) (h : (rightX x && rightX y) = true) (h2 : (cmpX y (nz 0) == 0) = true) : Con.sound (KN w0) Tryz.prog (FN [x, y, nz 0] [.bool (rightX x && rightX y), .int .i64 (cmpX y (nz 0))]) ⟨46, [NM 0, NM 1], [], .t [.g ZC, .c (.k (.bool false))], []⟩ :=
  con_ok (C := [(11, .call ⟨82, [LF (.s 6 0 2 2)], [.bx 6 26 (nm 0 ++ nm 1)], LF (.h 100), [.bx 6 26 (nm 0 ++ nm 1)]⟩),
    (10100, .fb 100 true),
    (15, .call ⟨65, [], [], NM 2, []⟩),
    (16, .call ⟨33, [NM 1, NM 2], [], LF (.h 101), []⟩),
    (17, .bin .eql 3 (LF (.h 101)) (LF (.k (.int .i64 0))) (LF (.k (.bool true))))]) 0 (fine_FN rfl) ⟨c_right2 rfl (gives_e (k := 0) rfl), c_fb (gives_e (k := 0) (congrArg Value.bool h)), c_zero rfl, c_cmp (gives_e (k := 1) rfl), c_bin (gives_e (k := 1) rfl) gives_k (congrArg some h2) gives_k, trivial⟩ mixed (by kernel_rfl)
theorem of_c {w0 : World} (x y : Raw) (h : (rightX x && rightX y) = true) (h2 : (cmpX y (nz 0) == 0) = false) (h3 : y.1 = false) : Con.sound (KN w0) Tryz.prog (FN [x, y, nz 0, nz (vO (gcdX x y)), nz (dqO (divX x (nz (vO (gcdX x y))))), nz (dqO (divX y (nz (vO (gcdX x y)))))] [.bool (rightX x && rightX y), .int .i64 (cmpX y (nz 0)), .bool (okO (gcdX x y))]) ⟨46, [NM 0, NM 1], [], .t [.g (nm 4 ++ nm 5), .c (.k (.bool true))], []⟩ :=
  con_ok (C := [(11, .call ⟨82, [LF (.s 6 0 2 2)], [.bx 6 26 (nm 0 ++ nm 1)], LF (.h 100), [.bx 6 26 (nm 0 ++ nm 1)]⟩),
    (10100, .fb 100 true),
    (15, .call ⟨65, [], [], NM 2, []⟩),
    (16, .call ⟨33, [NM 1, NM 2], [], LF (.h 101), []⟩),
    (17, .bin .eql 3 (LF (.h 101)) (LF (.k (.int .i64 0))) (LF (.k (.bool false)))),
    (10002, .fb 2 false),
    (29, .call ⟨83, [NM 0, NM 1], [], .t [.g (nm 3), .c (.h 102)], []⟩),
    (34, .call ⟨79, [NM 0, NM 3], [], NM 4, []⟩),
    (37, .call ⟨79, [NM 1, NM 3], [], NM 5, []⟩)]) 0 (fine_FN rfl) ⟨c_right2 rfl (gives_e (k := 0) rfl), c_fb (gives_e (k := 0) (congrArg Value.bool h)), c_zero rfl, c_cmp (gives_e (k := 1) rfl), c_bin (gives_e (k := 1) rfl) gives_k (congrArg some h2) gives_k, c_fb (gives_n (i := 1) h3), c_gcd rfl (gives_e (k := 2) rfl), c_quotient rfl, c_quotient rfl, trivial⟩ mixed (by kernel_rfl)
def ngX (x : Raw) : Raw := nz (vO (subX (nz 0) x))
theorem of_d {w0 : World} (x y : Raw) (h : (rightX x && rightX y) = true) (h2 : (cmpX y (nz 0) == 0) = false) (h3 : y.1 = true) : Con.sound (KN w0) Tryz.prog (FN [x, y, nz 0, nz (vO (gcdX (ngX x) (ngX y))), nz (dqO (divX (ngX x) (nz (vO (gcdX (ngX x) (ngX y)))))), nz (dqO (divX (ngX y) (nz (vO (gcdX (ngX x) (ngX y)))))), ngX x, ngX y] [.bool (rightX x && rightX y), .int .i64 (cmpX y (nz 0)), .bool (okO (gcdX (ngX x) (ngX y)))]) ⟨46, [NM 0, NM 1], [], .t [.g (nm 4 ++ nm 5), .c (.k (.bool true))], []⟩ :=
  con_ok (C := [(11, .call ⟨82, [LF (.s 6 0 2 2)], [.bx 6 26 (nm 0 ++ nm 1)], LF (.h 100), [.bx 6 26 (nm 0 ++ nm 1)]⟩),
    (10100, .fb 100 true),
    (15, .call ⟨65, [], [], NM 2, []⟩),
    (16, .call ⟨33, [NM 1, NM 2], [], LF (.h 101), []⟩),
    (17, .bin .eql 3 (LF (.h 101)) (LF (.k (.int .i64 0))) (LF (.k (.bool false)))),
    (10002, .fb 2 true),
    (23, .call ⟨61, [NM 0], [], NM 6, []⟩),
    (25, .call ⟨61, [NM 1], [], NM 7, []⟩),
    (29, .call ⟨83, [NM 6, NM 7], [], .t [.g (nm 3), .c (.h 102)], []⟩),
    (34, .call ⟨79, [NM 6, NM 3], [], NM 4, []⟩),
    (37, .call ⟨79, [NM 7, NM 3], [], NM 5, []⟩)]) 0 (fine_FN rfl) ⟨c_right2 rfl (gives_e (k := 0) rfl), c_fb (gives_e (k := 0) (congrArg Value.bool h)), c_zero rfl, c_cmp (gives_e (k := 1) rfl), c_bin (gives_e (k := 1) rfl) gives_k (congrArg some h2) gives_k, c_fb (gives_n (i := 1) h3), c_minus rfl, c_minus rfl, c_gcd rfl (gives_e (k := 2) rfl), c_quotient rfl, c_quotient rfl, trivial⟩ mixed (by kernel_rfl)
theorem c_of2 {xs : List Raw} {es : List Value} {w0 : World} {i j k k2 : Nat} {o : Lf} (h : X xs k = nz (nO (ofX (X xs i) (X xs j)))) (h2 : X xs k2 = nz ((dO (ofX (X xs i) (X xs j)) : Nat) : Int)) (ho : Gives (FN xs es) o (.bool (ofX (X xs i) (X xs j)).isSome)) (hi : i < 50 := by first | assumption | decide) (hj : j < 50 := by first | assumption | decide) (hk : k < 50 := by first | assumption | decide) (hk2 : k2 < 50 := by first | assumption | decide) : Con.sound (KN w0) Tryz.prog (FN xs es) ⟨46, [NM i, NM j], [], .t [.g (nm k ++ nm k2), .c o], []⟩ := by
  refine dgN2 (fun d1 d2 => ?_) hi hj
  cases hr : rightX (X xs i) && rightX (X xs j) with
  | false =>
    have e : ofX (X xs i) (X xs j) = none := by unfold ofX; rw [if_neg (by rw [hr]; simp)]
    rw [e] at h h2 ho
    exact tr (of_a _ _ hr) (sh2 (NM_mv rfl hi) (NM_mv rfl hj)) (T2_bk (ZR_bk h h2 hk hk2) (LF_bk ho gives_k))
  | true =>
    have hr' := hr
    rw [Bool.and_eq_true] at hr'
    obtain ⟨a, ea, ha⟩ := raw_nz hr'.1 d1
    obtain ⟨b, eb, hb⟩ := raw_nz hr'.2 d2
    rw [ea, eb, ofX_nz ha hb] at h h2 ho
    cases hz : cmpX (X xs j) (nz 0) == 0 with
    | true =>
      have hz' := hz
      rw [eb, eq_zero hb] at hz'
      have e : ofR a b = none := by unfold ofR; rw [if_pos (of_decide_eq_true hz')]
      rw [e] at h h2 ho
      exact tr (of_b _ _ hr hz) (sh2 (NM_mv rfl hi) (NM_mv rfl hj)) (T2_bk (ZR_bk h h2 hk hk2) (LF_bk ho gives_k))
    | false =>
      have hz' := hz
      rw [eb, eq_zero hb] at hz'
      have hb0 : b ≠ 0 := of_decide_eq_false hz'
      obtain ⟨p, e, hpn, hpd⟩ := ofR_parts (x := a) (y := b) hb0
      rw [e] at h h2 ho
      have hg := gcd_bigI ha hb
      have hg0 := gcd_pos (x := a) hb0
      cases hn : (X xs j).1 with
      | false =>
        have hbp : ¬ b < 0 := by rw [eb] at hn; exact of_decide_eq_false hn
        rw [if_neg hbp] at hpn
        refine tr (of_c _ _ hr hz hn) (sh2 (NM_mv rfl hi) (NM_mv rfl hj)) (T2_bk (RA_bk ?_ ?_) (LF_bk ho gives_k))
        · show nz (dqO (divX (X xs i) (nz (vO (gcdX (X xs i) (X xs j)))))) = _
          rw [h, ea, eb, gcdX_nz ha hb]
          show nz (dqO (divX (nz a) (nz ((Nat.gcd a.natAbs b.natAbs : Nat) : Int)))) = nz p.num
          rw [divX_nz ha hg hg0, hpn]; rfl
        · show nz (dqO (divX (X xs j) (nz (vO (gcdX (X xs i) (X xs j)))))) = _
          rw [h2, ea, eb, gcdX_nz ha hb]
          show nz (dqO (divX (nz b) (nz ((Nat.gcd a.natAbs b.natAbs : Nat) : Int)))) = nz ((p.den : Nat) : Int)
          rw [divX_nz hb hg hg0, hpd, Int.natCast_ediv, Int.natAbs_of_nonneg (by omega)]; rfl
      | true =>
        have hbn : b < 0 := by rw [eb] at hn; exact of_decide_eq_true hn
        rw [if_pos hbn] at hpn
        have hna : (-a).natAbs < big := by simpa using ha
        have hnb : (-b).natAbs < big := by simpa using hb
        have e1 : ngX (nz a) = nz (-a) := neg_fit ha
        have e2 : ngX (nz b) = nz (-b) := neg_fit hb
        refine tr (of_d _ _ hr hz hn) (sh2 (NM_mv rfl hi) (NM_mv rfl hj)) (T2_bk (RA_bk ?_ ?_) (LF_bk ho gives_k))
        · show nz (dqO (divX (ngX (X xs i)) (nz (vO (gcdX (ngX (X xs i)) (ngX (X xs j))))))) = _
          rw [h, ea, eb, e1, e2, gcdX_nz hna hnb, Int.natAbs_neg, Int.natAbs_neg]
          show nz (dqO (divX (nz (-a)) (nz ((Nat.gcd a.natAbs b.natAbs : Nat) : Int)))) = nz p.num
          rw [divX_nz hna hg hg0, hpn]; rfl
        · show nz (dqO (divX (ngX (X xs j)) (nz (vO (gcdX (ngX (X xs i)) (ngX (X xs j))))))) = _
          rw [h2, ea, eb, e1, e2, gcdX_nz hna hnb, Int.natAbs_neg, Int.natAbs_neg]
          show nz (dqO (divX (nz (-b)) (nz ((Nat.gcd a.natAbs b.natAbs : Nat) : Int)))) = nz ((p.den : Nat) : Int)
          rw [divX_nz hnb hg hg0, hpd, Int.natCast_ediv, show ((b.natAbs : Nat) : Int) = -b by omega]; rfl
theorem refof_a {w0 : World} (x y : Raw) (h : rightX x = false) : Con.sound (KN w0) Tryz.prog (FN [x, y] [.bool (rightX x), .bool (rightX y)]) ⟨47, [NM 0, NM 1], [], .t [.g ZC, .c (.k (.bool false))], []⟩ :=
  con_ok (C := [(10, .call ⟨84, [NM 0], [], LF (.h 100), []⟩),
    (10100, .fb 100 false)]) 0 (fine_FN rfl) ⟨c_refright (gives_e (k := 0) rfl), c_fb (gives_e (k := 0) (congrArg Value.bool h)), trivial⟩ mixed (by kernel_rfl)
theorem refof_b {w0 : World} (x y : Raw) (h : rightX x = true) (h1 : rightX y = false) : Con.sound (KN w0) Tryz.prog (FN [x, y] [.bool (rightX x), .bool (rightX y)]) ⟨47, [NM 0, NM 1], [], .t [.g ZC, .c (.k (.bool false))], []⟩ :=
  con_ok (C := [(10, .call ⟨84, [NM 0], [], LF (.h 100), []⟩),
    (14, .call ⟨84, [NM 1], [], LF (.h 101), []⟩),
    (10100, .fb 100 true),
    (10101, .fb 101 false)]) 0 (fine_FN rfl) ⟨c_refright (gives_e (k := 0) rfl), c_refright (gives_e (k := 1) rfl), c_fb (gives_e (k := 0) (congrArg Value.bool h)), c_fb (gives_e (k := 1) (congrArg Value.bool h1)), trivial⟩ mixed (by kernel_rfl)
theorem refof_c {w0 : World} (x y : Raw) (h : rightX x = true) (h1 : rightX y = true) (h2 : (cmpX y (nz 0) == 0) = true) : Con.sound (KN w0) Tryz.prog (FN [x, y, nz 0] [.bool (rightX x), .bool (rightX y), .int .i64 (cmpX y (nz 0))]) ⟨47, [NM 0, NM 1], [], .t [.g ZC, .c (.k (.bool false))], []⟩ :=
  con_ok (C := [(10, .call ⟨84, [NM 0], [], LF (.h 100), []⟩),
    (14, .call ⟨84, [NM 1], [], LF (.h 101), []⟩),
    (10100, .fb 100 true),
    (10101, .fb 101 true),
    (19, .call ⟨55, [LF (.k (.int .i64 0))], [], NM 2, []⟩),
    (20, .call ⟨54, [NM 1, NM 2], [], LF (.h 102), []⟩),
    (21, .bin .eql 3 (LF (.h 102)) (LF (.k (.int .i64 0))) (LF (.k (.bool true))))]) 0 (fine_FN rfl) ⟨c_refright (gives_e (k := 0) rfl), c_refright (gives_e (k := 1) rfl), c_fb (gives_e (k := 0) (congrArg Value.bool h)), c_fb (gives_e (k := 1) (congrArg Value.bool h1)), c_whole gives_k (by decide) (by decide) rfl, c_refcmp (gives_e (k := 2) rfl), c_bin (gives_e (k := 2) rfl) gives_k (congrArg some h2) gives_k, trivial⟩ mixed (by kernel_rfl)
theorem refof_d {w0 : World} (x y : Raw) (h : rightX x = true) (h1 : rightX y = true) (h2 : (cmpX y (nz 0) == 0) = false) (h3 : decide (cmpX y (nz 0) < 0) = false) : Con.sound (KN w0) Tryz.prog (FN [x, y, nz 0, nz (vO (gcdX x y)), nz (dqO (divX x (nz (vO (gcdX x y))))), nz (dqO (divX y (nz (vO (gcdX x y)))))] [.bool (rightX x), .bool (rightX y), .int .i64 (cmpX y (nz 0)), .bool (okO (gcdX x y))]) ⟨47, [NM 0, NM 1], [], .t [.g (nm 4 ++ nm 5), .c (.k (.bool true))], []⟩ :=
  con_ok (C := [(10, .call ⟨84, [NM 0], [], LF (.h 100), []⟩),
    (14, .call ⟨84, [NM 1], [], LF (.h 101), []⟩),
    (10100, .fb 100 true),
    (10101, .fb 101 true),
    (19, .call ⟨55, [LF (.k (.int .i64 0))], [], NM 2, []⟩),
    (20, .call ⟨54, [NM 1, NM 2], [], LF (.h 102), []⟩),
    (21, .bin .eql 3 (LF (.h 102)) (LF (.k (.int .i64 0))) (LF (.k (.bool false)))),
    (27, .call ⟨85, [NM 0, NM 1], [], .t [.g (nm 3), .c (.h 103)], []⟩),
    (32, .call ⟨81, [NM 0, NM 3], [], NM 4, []⟩),
    (35, .call ⟨81, [NM 1, NM 3], [], NM 5, []⟩),
    (38, .call ⟨55, [LF (.k (.int .i64 0))], [], NM 2, []⟩),
    (39, .call ⟨54, [NM 1, NM 2], [], LF (.h 102), []⟩),
    (40, .bin .lss 3 (LF (.h 102)) (LF (.k (.int .i64 0))) (LF (.k (.bool false))))]) 0 (fine_FN rfl) ⟨c_refright (gives_e (k := 0) rfl), c_refright (gives_e (k := 1) rfl), c_fb (gives_e (k := 0) (congrArg Value.bool h)), c_fb (gives_e (k := 1) (congrArg Value.bool h1)), c_whole gives_k (by decide) (by decide) rfl, c_refcmp (gives_e (k := 2) rfl), c_bin (gives_e (k := 2) rfl) gives_k (congrArg some h2) gives_k, c_refgcd rfl (gives_e (k := 3) rfl), c_refover rfl, c_refover rfl, c_whole gives_k (by decide) (by decide) rfl, c_refcmp (gives_e (k := 2) rfl), c_bin (gives_e (k := 2) rfl) gives_k (congrArg some h3) gives_k, trivial⟩ mixed (by kernel_rfl)
theorem refof_e {w0 : World} (x y : Raw) (h : rightX x = true) (h1 : rightX y = true) (h2 : (cmpX y (nz 0) == 0) = false) (h3 : decide (cmpX y (nz 0) < 0) = true) : Con.sound (KN w0) Tryz.prog (FN [x, y, nz 0, nz (vO (gcdX x y)), nz (dqO (divX x (nz (vO (gcdX x y))))), nz (dqO (divX y (nz (vO (gcdX x y))))), ngX (nz (dqO (divX x (nz (vO (gcdX x y)))))), ngX (nz (dqO (divX y (nz (vO (gcdX x y))))))] [.bool (rightX x), .bool (rightX y), .int .i64 (cmpX y (nz 0)), .bool (okO (gcdX x y))]) ⟨47, [NM 0, NM 1], [], .t [.g (nm 6 ++ nm 7), .c (.k (.bool true))], []⟩ :=
  con_ok (C := [(10, .call ⟨84, [NM 0], [], LF (.h 100), []⟩),
    (14, .call ⟨84, [NM 1], [], LF (.h 101), []⟩),
    (10100, .fb 100 true),
    (10101, .fb 101 true),
    (19, .call ⟨55, [LF (.k (.int .i64 0))], [], NM 2, []⟩),
    (20, .call ⟨54, [NM 1, NM 2], [], LF (.h 102), []⟩),
    (21, .bin .eql 3 (LF (.h 102)) (LF (.k (.int .i64 0))) (LF (.k (.bool false)))),
    (27, .call ⟨85, [NM 0, NM 1], [], .t [.g (nm 3), .c (.h 103)], []⟩),
    (32, .call ⟨81, [NM 0, NM 3], [], NM 4, []⟩),
    (35, .call ⟨81, [NM 1, NM 3], [], NM 5, []⟩),
    (38, .call ⟨55, [LF (.k (.int .i64 0))], [], NM 2, []⟩),
    (39, .call ⟨54, [NM 1, NM 2], [], LF (.h 102), []⟩),
    (40, .bin .lss 3 (LF (.h 102)) (LF (.k (.int .i64 0))) (LF (.k (.bool true)))),
    (43, .call ⟨62, [NM 4], [], NM 6, []⟩),
    (47, .call ⟨62, [NM 5], [], NM 7, []⟩)]) 0 (fine_FN rfl) ⟨c_refright (gives_e (k := 0) rfl), c_refright (gives_e (k := 1) rfl), c_fb (gives_e (k := 0) (congrArg Value.bool h)), c_fb (gives_e (k := 1) (congrArg Value.bool h1)), c_whole gives_k (by decide) (by decide) rfl, c_refcmp (gives_e (k := 2) rfl), c_bin (gives_e (k := 2) rfl) gives_k (congrArg some h2) gives_k, c_refgcd rfl (gives_e (k := 3) rfl), c_refover rfl, c_refover rfl, c_whole gives_k (by decide) (by decide) rfl, c_refcmp (gives_e (k := 2) rfl), c_bin (gives_e (k := 2) rfl) gives_k (congrArg some h3) gives_k, c_opposite rfl, c_opposite rfl, trivial⟩ mixed (by kernel_rfl)
theorem c_refof2 {xs : List Raw} {es : List Value} {w0 : World} {i j k k2 : Nat} {o : Lf} (h : X xs k = nz (nO (ofX (X xs i) (X xs j)))) (h2 : X xs k2 = nz ((dO (ofX (X xs i) (X xs j)) : Nat) : Int)) (ho : Gives (FN xs es) o (.bool (ofX (X xs i) (X xs j)).isSome)) (hi : i < 50 := by first | assumption | decide) (hj : j < 50 := by first | assumption | decide) (hk : k < 50 := by first | assumption | decide) (hk2 : k2 < 50 := by first | assumption | decide) : Con.sound (KN w0) Tryz.prog (FN xs es) ⟨47, [NM i, NM j], [], .t [.g (nm k ++ nm k2), .c o], []⟩ := by
  refine dgN2 (fun d1 d2 => ?_) hi hj
  cases hr : rightX (X xs i) && rightX (X xs j) with
  | false =>
    have e : ofX (X xs i) (X xs j) = none := by unfold ofX; rw [if_neg (by rw [hr]; simp)]
    rw [e] at h h2 ho
    cases hx : rightX (X xs i) with
    | false => exact tr (refof_a _ _ hx) (sh2 (NM_mv rfl hi) (NM_mv rfl hj)) (T2_bk (ZR_bk h h2 hk hk2) (LF_bk ho gives_k))
    | true =>
      rw [hx, Bool.true_and] at hr
      exact tr (refof_b _ _ hx hr) (sh2 (NM_mv rfl hi) (NM_mv rfl hj)) (T2_bk (ZR_bk h h2 hk hk2) (LF_bk ho gives_k))
  | true =>
    have hr' := hr
    rw [Bool.and_eq_true] at hr'
    obtain ⟨a, ea, ha⟩ := raw_nz hr'.1 d1
    obtain ⟨b, eb, hb⟩ := raw_nz hr'.2 d2
    rw [ea, eb, ofX_nz ha hb] at h h2 ho
    cases hz : cmpX (X xs j) (nz 0) == 0 with
    | true =>
      have hz' := hz
      rw [eb, eq_zero hb] at hz'
      have e : ofR a b = none := by unfold ofR; rw [if_pos (of_decide_eq_true hz')]
      rw [e] at h h2 ho
      exact tr (refof_c _ _ hr'.1 hr'.2 hz) (sh2 (NM_mv rfl hi) (NM_mv rfl hj)) (T2_bk (ZR_bk h h2 hk hk2) (LF_bk ho gives_k))
    | false =>
      have hz' := hz
      rw [eb, eq_zero hb] at hz'
      have hb0 : b ≠ 0 := of_decide_eq_false hz'
      obtain ⟨p, e, hpn, hpd⟩ := ofR_parts (x := a) (y := b) hb0
      rw [e] at h h2 ho
      have hg := gcd_bigI ha hb
      have hg0 := gcd_pos (x := a) hb0
      cases hn : decide (cmpX (X xs j) (nz 0) < 0) with
      | false =>
        have hbp : ¬ b < 0 := by rw [eb, lt_zero hb] at hn; exact of_decide_eq_false hn
        rw [if_neg hbp] at hpn
        refine tr (refof_d _ _ hr'.1 hr'.2 hz hn) (sh2 (NM_mv rfl hi) (NM_mv rfl hj)) (T2_bk (RA_bk ?_ ?_) (LF_bk ho gives_k))
        · show nz (dqO (divX (X xs i) (nz (vO (gcdX (X xs i) (X xs j)))))) = _
          rw [h, ea, eb, gcdX_nz ha hb]
          show nz (dqO (divX (nz a) (nz ((Nat.gcd a.natAbs b.natAbs : Nat) : Int)))) = nz p.num
          rw [divX_nz ha hg hg0, hpn]; rfl
        · show nz (dqO (divX (X xs j) (nz (vO (gcdX (X xs i) (X xs j)))))) = _
          rw [h2, ea, eb, gcdX_nz ha hb]
          show nz (dqO (divX (nz b) (nz ((Nat.gcd a.natAbs b.natAbs : Nat) : Int)))) = nz ((p.den : Nat) : Int)
          rw [divX_nz hb hg hg0, hpd, Int.natCast_ediv, Int.natAbs_of_nonneg (by omega)]; rfl
      | true =>
        have hbn : b < 0 := by rw [eb, lt_zero hb] at hn; exact of_decide_eq_true hn
        rw [if_pos hbn] at hpn
        refine tr (refof_e _ _ hr'.1 hr'.2 hz hn) (sh2 (NM_mv rfl hi) (NM_mv rfl hj)) (T2_bk (RA_bk ?_ ?_) (LF_bk ho gives_k))
        · show ngX (nz (dqO (divX (X xs i) (nz (vO (gcdX (X xs i) (X xs j))))))) = _
          rw [h, ea, eb, gcdX_nz ha hb]
          show ngX (nz (dqO (divX (nz a) (nz ((Nat.gcd a.natAbs b.natAbs : Nat) : Int))))) = nz p.num
          rw [divX_nz ha hg hg0, hpn]
          show ngX (nz (a / ((Nat.gcd a.natAbs b.natAbs : Nat) : Int))) = _
          rw [neg_div_exact]
          exact neg_fit (div_big ha)
        · show ngX (nz (dqO (divX (X xs j) (nz (vO (gcdX (X xs i) (X xs j))))))) = _
          rw [h2, ea, eb, gcdX_nz ha hb]
          show ngX (nz (dqO (divX (nz b) (nz ((Nat.gcd a.natAbs b.natAbs : Nat) : Int))))) = nz ((p.den : Nat) : Int)
          rw [divX_nz hb hg hg0, hpd, Int.natCast_ediv, show ((b.natAbs : Nat) : Int) = -b by omega]
          show ngX (nz (b / ((Nat.gcd a.natAbs b.natAbs : Nat) : Int))) = _
          rw [Int.neg_ediv_of_dvd (Int.ofNat_dvd_left.2 (Nat.gcd_dvd_right _ _))]
          exact neg_fit (div_big hb)
end Go.Proofs.YtccjiodohphgnaaGreatDoor

namespace Go.Proofs.YtccjiodohphgnaaGreatDoor
open Go.RowKit Go.Shelf

theorem times_p {w0 : World} (x y : Raw) : Con.sound (KN w0) Tryz.prog (FN [x, y, nz (vO (mulX x y))] [.bool (okO (mulX x y))]) ⟨56, [NM 0, NM 1], [], PR 2 (.h 100), []⟩ :=
  con_ok (C := [(10, .call ⟨87, [NM 0, NM 1], [], .t [.g (nm 2), .c (.h 100)], []⟩)]) 0 (fine_FN rfl) ⟨c_mul rfl (gives_e (k := 0) rfl), trivial⟩ mixed (by kernel_rfl)
theorem c_times {xs : List Raw} {es : List Value} {w0 : World} {i j k : Nat} {o : Lf} (h : X xs k = nz (vO (mulX (X xs i) (X xs j)))) (ho : Gives (FN xs es) o (.bool (okO (mulX (X xs i) (X xs j))))) (hi : i < 50 := by first | assumption | decide) (hj : j < 50 := by first | assumption | decide) (hk : k < 50 := by first | assumption | decide) : Con.sound (KN w0) Tryz.prog (FN xs es) ⟨56, [NM i, NM j], [], PR k o, []⟩ := tr (times_p (X xs i) (X xs j)) (sh2 (NM_mv rfl) (NM_mv rfl)) (PR_bk h.symm ho (gives_e (k := 0) rfl))
def ovX (b1 b2 : Bool) (x y : Raw) : Option Rat := if (b1 && b2) = true then ofX x y else none
theorem over_a {w0 : World} (x y : Raw) (b : Bool) : Con.sound (KN w0) Tryz.prog (FN [x, y] [.bool false, .bool b]) ⟨58, [PR 0 (.h 100), PR 1 (.h 101)], [], .t [.g ZC, .c (.k (.bool false))], []⟩ :=
  con_ok (C := [(10100, .fb 100 false)]) 0 (fine_FN rfl) ⟨c_fb (gives_e (k := 0) rfl), trivial⟩ mixed (by kernel_rfl)
theorem over_b {w0 : World} (x y : Raw) : Con.sound (KN w0) Tryz.prog (FN [x, y] [.bool true, .bool false]) ⟨58, [PR 0 (.h 100), PR 1 (.h 101)], [], .t [.g ZC, .c (.k (.bool false))], []⟩ :=
  con_ok (C := [(10100, .fb 100 true),
    (10101, .fb 101 false)]) 0 (fine_FN rfl) ⟨c_fb (gives_e (k := 0) rfl), c_fb (gives_e (k := 1) rfl), trivial⟩ mixed (by kernel_rfl)
theorem over_c {w0 : World} (x y : Raw) : Con.sound (KN w0) Tryz.prog (FN [x, y, nz (nO (ofX x y)), nz ((dO (ofX x y) : Nat) : Int)] [.bool true, .bool true, .bool (ofX x y).isSome]) ⟨58, [PR 0 (.h 100), PR 1 (.h 101)], [], .t [.g (nm 2 ++ nm 3), .c (.h 102)], []⟩ :=
  con_ok (C := [(10100, .fb 100 true),
    (10101, .fb 101 true),
    (19, .call ⟨46, [NM 0, NM 1], [], .t [.g (nm 2 ++ nm 3), .c (.h 102)], []⟩)]) 0 (fine_FN rfl) ⟨c_fb (gives_e (k := 0) rfl), c_fb (gives_e (k := 1) rfl), c_of2 rfl rfl (gives_e (k := 2) rfl), trivial⟩ mixed (by kernel_rfl)
theorem c_over {xs : List Raw} {es : List Value} {w0 : World} {i j k k2 : Nat} {L M o : Lf} {b1 b2 : Bool} (hL : Gives (FN xs es) L (.bool b1)) (hM : Gives (FN xs es) M (.bool b2)) (h : X xs k = nz (nO (ovX b1 b2 (X xs i) (X xs j)))) (h2 : X xs k2 = nz ((dO (ovX b1 b2 (X xs i) (X xs j)) : Nat) : Int)) (ho : Gives (FN xs es) o (.bool (ovX b1 b2 (X xs i) (X xs j)).isSome)) (hi : i < 50 := by first | assumption | decide) (hj : j < 50 := by first | assumption | decide) (hk : k < 50 := by first | assumption | decide) (hk2 : k2 < 50 := by first | assumption | decide) : Con.sound (KN w0) Tryz.prog (FN xs es) ⟨58, [PR i L, PR j M], [], .t [.g (nm k ++ nm k2), .c o], []⟩ := by
  cases b1 with
  | false => exact tr (over_a (X xs i) (X xs j) b2) (sh2 (PR_mv rfl hL (gives_e (k := 0) rfl)) (PR_mv rfl hM (gives_e (k := 1) rfl))) (T2_bk (ZR_bk h h2) (LF_bk ho gives_k))
  | true =>
    cases b2 with
    | false => exact tr (over_b (X xs i) (X xs j)) (sh2 (PR_mv rfl hL (gives_e (k := 0) rfl)) (PR_mv rfl hM (gives_e (k := 1) rfl))) (T2_bk (ZR_bk h h2) (LF_bk ho gives_k))
    | true => exact tr (over_c (X xs i) (X xs j)) (sh2 (PR_mv rfl hL (gives_e (k := 0) rfl)) (PR_mv rfl hM (gives_e (k := 1) rfl))) (T2_bk (RA_bk h.symm h2.symm) (LF_bk ho (gives_e (k := 2) rfl)))
section
variable (a b c d : Raw)
def axX : Option Int := mulX a d
def ayX : Option Int := mulX c b
def adX : Option Int := mulX b d
def asX : Option Int := addX (nz (vO (axX a d))) (nz (vO (ayX b c)))
def arX (t : Bool) : Option Rat := ovX t (okO (adX b d)) (nz (vO (asX a b c d))) (nz (vO (adX b d)))
end
theorem add_a {w0 : World} (a b c d : Raw) (h : rrX a b = false) : Con.sound (KN w0) Tryz.prog (FN [a, b, c, d] [.bool (rrX a b)]) ⟨13, [RA 0 1, RA 2 3], [], .t [.g ZC, .c (.k (.bool false))], []⟩ :=
  con_ok (C := [(11, .call ⟨43, [RA 0 1], [], LF (.h 100), []⟩),
    (10100, .fb 100 false)]) 0 (fine_FN rfl) ⟨c_rright (gives_e (k := 0) rfl), c_fb (gives_e (k := 0) (congrArg Value.bool h)), trivial⟩ mixed (by kernel_rfl)
theorem add_b {w0 : World} (a b c d : Raw) (h : rrX a b = true) (h1 : rrX c d = false) : Con.sound (KN w0) Tryz.prog (FN [a, b, c, d] [.bool (rrX a b), .bool (rrX c d)]) ⟨13, [RA 0 1, RA 2 3], [], .t [.g ZC, .c (.k (.bool false))], []⟩ :=
  con_ok (C := [(11, .call ⟨43, [RA 0 1], [], LF (.h 100), []⟩),
    (15, .call ⟨43, [RA 2 3], [], LF (.h 101), []⟩),
    (10100, .fb 100 true),
    (10101, .fb 101 false)]) 0 (fine_FN rfl) ⟨c_rright (gives_e (k := 0) rfl), c_rright (gives_e (k := 1) rfl), c_fb (gives_e (k := 0) (congrArg Value.bool h)), c_fb (gives_e (k := 1) (congrArg Value.bool h1)), trivial⟩ mixed (by kernel_rfl)
theorem add_c {w0 : World} (a b c d : Raw) (h : rrX a b = true) (h1 : rrX c d = true) (h2 : okO (asX a b c d) = false) : Con.sound (KN w0) Tryz.prog (FN [a, b, c, d, nz (vO (axX a d)), nz (vO (ayX b c)), nz (vO (asX a b c d)), nz (vO (adX b d)), nz (nO (arX a b c d false)), nz ((dO (arX a b c d false) : Nat) : Int)] [.bool (rrX a b), .bool (rrX c d), .bool (okO (axX a d)), .bool (okO (ayX b c)), .bool (okO (asX a b c d)), .bool (okO (adX b d)), .bool (arX a b c d false).isSome]) ⟨13, [RA 0 1, RA 2 3], [], .t [.g (nm 8 ++ nm 9), .c (.h 106)], []⟩ :=
  con_ok (C := [(11, .call ⟨43, [RA 0 1], [], LF (.h 100), []⟩),
    (15, .call ⟨43, [RA 2 3], [], LF (.h 101), []⟩),
    (10100, .fb 100 true),
    (10101, .fb 101 true),
    (23, .call ⟨56, [NM 0, NM 3], [], PR 4 (.h 102), []⟩),
    (28, .call ⟨56, [NM 2, NM 1], [], PR 5 (.h 103), []⟩),
    (34, .call ⟨57, [NM 4, NM 5], [], .t [.g (nm 6), .c (.h 104)], []⟩),
    (52, .call ⟨56, [NM 1, NM 3], [], PR 7 (.h 105), []⟩),
    (53, .call ⟨58, [PR 6 (.k (.bool false)), PR 7 (.h 105)], [], .t [.g (nm 8 ++ nm 9), .c (.h 106)], []⟩),
    (10104, .fb 104 false)]) 0 (fine_FN rfl) ⟨c_rright (gives_e (k := 0) rfl), c_rright (gives_e (k := 1) rfl), c_fb (gives_e (k := 0) (congrArg Value.bool h)), c_fb (gives_e (k := 1) (congrArg Value.bool h1)), c_times rfl (gives_e (k := 2) rfl), c_times rfl (gives_e (k := 3) rfl), c_add rfl (gives_e (k := 4) rfl), c_times rfl (gives_e (k := 5) rfl), c_over gives_k (gives_e (k := 5) rfl) rfl rfl (gives_e (k := 6) rfl), c_fb (gives_e (k := 4) (congrArg Value.bool h2)), trivial⟩ mixed (by kernel_rfl)
theorem add_d {w0 : World} (a b c d : Raw) (h : rrX a b = true) (h1 : rrX c d = true) (h2 : okO (asX a b c d) = true) (h3 : okO (axX a d) = false) : Con.sound (KN w0) Tryz.prog (FN [a, b, c, d, nz (vO (axX a d)), nz (vO (ayX b c)), nz (vO (asX a b c d)), nz (vO (adX b d)), nz (nO (arX a b c d false)), nz ((dO (arX a b c d false) : Nat) : Int)] [.bool (rrX a b), .bool (rrX c d), .bool (okO (axX a d)), .bool (okO (ayX b c)), .bool (okO (asX a b c d)), .bool (okO (adX b d)), .bool (arX a b c d false).isSome]) ⟨13, [RA 0 1, RA 2 3], [], .t [.g (nm 8 ++ nm 9), .c (.h 106)], []⟩ :=
  con_ok (C := [(11, .call ⟨43, [RA 0 1], [], LF (.h 100), []⟩),
    (15, .call ⟨43, [RA 2 3], [], LF (.h 101), []⟩),
    (10100, .fb 100 true),
    (10101, .fb 101 true),
    (23, .call ⟨56, [NM 0, NM 3], [], PR 4 (.h 102), []⟩),
    (28, .call ⟨56, [NM 2, NM 1], [], PR 5 (.h 103), []⟩),
    (34, .call ⟨57, [NM 4, NM 5], [], .t [.g (nm 6), .c (.h 104)], []⟩),
    (52, .call ⟨56, [NM 1, NM 3], [], PR 7 (.h 105), []⟩),
    (53, .call ⟨58, [PR 6 (.k (.bool false)), PR 7 (.h 105)], [], .t [.g (nm 8 ++ nm 9), .c (.h 106)], []⟩),
    (10104, .fb 104 true),
    (10102, .fb 102 false)]) 0 (fine_FN rfl) ⟨c_rright (gives_e (k := 0) rfl), c_rright (gives_e (k := 1) rfl), c_fb (gives_e (k := 0) (congrArg Value.bool h)), c_fb (gives_e (k := 1) (congrArg Value.bool h1)), c_times rfl (gives_e (k := 2) rfl), c_times rfl (gives_e (k := 3) rfl), c_add rfl (gives_e (k := 4) rfl), c_times rfl (gives_e (k := 5) rfl), c_over gives_k (gives_e (k := 5) rfl) rfl rfl (gives_e (k := 6) rfl), c_fb (gives_e (k := 4) (congrArg Value.bool h2)), c_fb (gives_e (k := 2) (congrArg Value.bool h3)), trivial⟩ mixed (by kernel_rfl)
theorem add_e {w0 : World} (a b c d : Raw) (h : rrX a b = true) (h1 : rrX c d = true) (h2 : okO (asX a b c d) = true) (h3 : okO (axX a d) = true) : Con.sound (KN w0) Tryz.prog (FN [a, b, c, d, nz (vO (axX a d)), nz (vO (ayX b c)), nz (vO (asX a b c d)), nz (vO (adX b d)), nz (nO (arX a b c d (okO (ayX b c)))), nz ((dO (arX a b c d (okO (ayX b c))) : Nat) : Int)] [.bool (rrX a b), .bool (rrX c d), .bool (okO (axX a d)), .bool (okO (ayX b c)), .bool (okO (asX a b c d)), .bool (okO (adX b d)), .bool (arX a b c d (okO (ayX b c))).isSome]) ⟨13, [RA 0 1, RA 2 3], [], .t [.g (nm 8 ++ nm 9), .c (.h 106)], []⟩ :=
  con_ok (C := [(11, .call ⟨43, [RA 0 1], [], LF (.h 100), []⟩),
    (15, .call ⟨43, [RA 2 3], [], LF (.h 101), []⟩),
    (10100, .fb 100 true),
    (10101, .fb 101 true),
    (23, .call ⟨56, [NM 0, NM 3], [], PR 4 (.h 102), []⟩),
    (28, .call ⟨56, [NM 2, NM 1], [], PR 5 (.h 103), []⟩),
    (34, .call ⟨57, [NM 4, NM 5], [], .t [.g (nm 6), .c (.h 104)], []⟩),
    (52, .call ⟨56, [NM 1, NM 3], [], PR 7 (.h 105), []⟩),
    (53, .call ⟨58, [PR 6 (.h 103), PR 7 (.h 105)], [], .t [.g (nm 8 ++ nm 9), .c (.h 106)], []⟩),
    (10104, .fb 104 true),
    (10102, .fb 102 true)]) 0 (fine_FN rfl) ⟨c_rright (gives_e (k := 0) rfl), c_rright (gives_e (k := 1) rfl), c_fb (gives_e (k := 0) (congrArg Value.bool h)), c_fb (gives_e (k := 1) (congrArg Value.bool h1)), c_times rfl (gives_e (k := 2) rfl), c_times rfl (gives_e (k := 3) rfl), c_add rfl (gives_e (k := 4) rfl), c_times rfl (gives_e (k := 5) rfl), c_over (gives_e (k := 3) rfl) (gives_e (k := 5) rfl) rfl rfl (gives_e (k := 6) rfl), c_fb (gives_e (k := 4) (congrArg Value.bool h2)), c_fb (gives_e (k := 2) (congrArg Value.bool h3)), trivial⟩ mixed (by kernel_rfl)
theorem fitO_no {x : Int} (h : ¬ x.natAbs < big) : fitO x = none := if_neg h
theorem fitB_yes {x : Int} (h : x.natAbs < big) : fitB x = true := decide_eq_true h
theorem fitB_no {x : Int} (h : ¬ x.natAbs < big) : fitB x = false := decide_eq_false h
theorem vO_big (x : Int) : (vO (fitO x)).natAbs < big := by
  unfold fitO vO
  split
  · assumption
  · exact fits_small (by decide)
section
variable {p r : Rat}
/-- The sum of two fractions. -/
theorem add_math (hp : p.num.natAbs < big) (hp2 : p.den < big) (hr : r.num.natAbs < big) (hr2 : r.den < big) :
    arX (nz p.num) (nz (p.den : Int)) (nz r.num) (nz (r.den : Int)) (okO (asX (nz p.num) (nz (p.den : Int)) (nz r.num) (nz (r.den : Int))) && (okO (axX (nz p.num) (nz (r.den : Int))) && okO (ayX (nz (p.den : Int)) (nz r.num)))) = addR (some p) (some r) := by
  have hp2' : ((p.den : Nat) : Int).natAbs < big := by simpa using hp2
  have hr2' : ((r.den : Nat) : Int).natAbs < big := by simpa using hr2
  have e1 : axX (nz p.num) (nz (r.den : Int)) = fitO (p.num * r.den) := mulX_nz hp hr2'
  have e2 : ayX (nz (p.den : Int)) (nz r.num) = fitO (r.num * p.den) := mulX_nz hr hp2'
  have e3 : adX (nz (p.den : Int)) (nz (r.den : Int)) = fitO ((p.den : Int) * r.den) := mulX_nz hp2' hr2'
  have e4 : asX (nz p.num) (nz (p.den : Int)) (nz r.num) (nz (r.den : Int)) = fitO (vO (fitO (p.num * r.den)) + vO (fitO (r.num * p.den))) := by
    unfold asX
    rw [e1, e2]
    exact addX_nz (vO_big _) (vO_big _)
  unfold arX
  rw [e1, e2, e3, e4]
  rw [show addR (some p) (some r) = if (fitB (p.num * r.den) && (fitB (r.num * p.den) && (fitB ((p.den : Int) * r.den) && fitB (p.num * r.den + r.num * p.den)))) = true then some (p + r) else none from rfl]
  by_cases h1 : (p.num * r.den).natAbs < big
  · by_cases h2 : (r.num * p.den).natAbs < big
    · rw [fitO_big h1, fitO_big h2]
      by_cases h3 : ((p.den : Int) * r.den).natAbs < big
      · rw [fitO_big h3]
        by_cases h4 : (p.num * r.den + r.num * p.den).natAbs < big
        · rw [if_pos (by rw [fitB_yes h1, fitB_yes h2, fitB_yes h3, fitB_yes h4]; rfl)]
          show ovX (okO (fitO (p.num * r.den + r.num * p.den)) && (true && true)) true (nz (vO (fitO (p.num * r.den + r.num * p.den)))) (nz ((p.den : Int) * r.den)) = _
          rw [fitO_big h4]
          show ofX (nz (p.num * r.den + r.num * p.den)) (nz ((p.den : Int) * r.den)) = _
          rw [ofX_nz h4 h3, add_of]
        · rw [if_neg (by simp [fitB_no h4])]
          show ovX (okO (fitO (p.num * r.den + r.num * p.den)) && (true && true)) true _ _ = _
          rw [fitO_no h4]
          rfl
      · rw [if_neg (by simp [fitB_no h3]), fitO_no h3]
        unfold ovX
        rw [if_neg (by simp [okO])]
    · rw [if_neg (by simp [fitB_no h2]), fitO_no h2]
      unfold ovX
      rw [if_neg (by simp [okO])]
  · rw [if_neg (by simp [fitB_no h1]), fitO_no h1]
    unfold ovX
    rw [if_neg (by simp [okO])]
end
theorem c_radd {xs : List Raw} {es : List Value} {w0 : World} {i j i2 j2 k k2 : Nat} {o : Lf} (h : X xs k = nz (nO (addR (qX (X xs i) (X xs j)) (qX (X xs i2) (X xs j2))))) (h2 : X xs k2 = nz ((dO (addR (qX (X xs i) (X xs j)) (qX (X xs i2) (X xs j2))) : Nat) : Int)) (ho : Gives (FN xs es) o (.bool (addR (qX (X xs i) (X xs j)) (qX (X xs i2) (X xs j2))).isSome)) (hi : i < 50 := by first | assumption | decide) (hj : j < 50 := by first | assumption | decide) (hi2 : i2 < 50 := by first | assumption | decide) (hj2 : j2 < 50 := by first | assumption | decide) (hk : k < 50 := by first | assumption | decide) (hk2 : k2 < 50 := by first | assumption | decide) : Con.sound (KN w0) Tryz.prog (FN xs es) ⟨13, [RA i j, RA i2 j2], [], .t [.g (nm k ++ nm k2), .c o], []⟩ := by
  refine dgR2 (fun d1 d2 d3 d4 => ?_) hi hj hi2 hj2
  cases h3 : rrX (X xs i) (X xs j) with
  | false =>
    rw [qX_none h3] at h h2 ho
    exact tr (add_a _ _ _ _ h3) (sh2 (RA_mv rfl rfl hi hj) (RA_mv rfl rfl hi2 hj2)) (T2_bk (ZR_bk h h2 hk hk2) (LF_bk ho gives_k))
  | true =>
    obtain ⟨p, ep, ea, eb, hp, hp2⟩ := qX_some h3 d1 d2
    cases h4 : rrX (X xs i2) (X xs j2) with
    | false =>
      rw [qX_none h4, ep] at h h2 ho
      exact tr (add_b _ _ _ _ h3 h4) (sh2 (RA_mv rfl rfl hi hj) (RA_mv rfl rfl hi2 hj2)) (T2_bk (ZR_bk h h2 hk hk2) (LF_bk ho gives_k))
    | true =>
      obtain ⟨r, er, ec, ed, hr, hr2⟩ := qX_some h4 d3 d4
      rw [ep, er] at h h2 ho
      have hp2' : ((p.den : Nat) : Int).natAbs < big := by simpa using hp2
      have hr2' : ((r.den : Nat) : Int).natAbs < big := by simpa using hr2
      have key := add_math hp hp2 hr hr2
      rw [← ea, ← eb, ← ec, ← ed] at key
      rw [← key] at h h2 ho
      cases h5 : okO (asX (X xs i) (X xs j) (X xs i2) (X xs j2)) with
      | false =>
        rw [h5, Bool.false_and] at h h2 ho
        exact tr (add_c _ _ _ _ h3 h4 h5) (sh2 (RA_mv rfl rfl hi hj) (RA_mv rfl rfl hi2 hj2)) (T2_bk (RA_bk h.symm h2.symm) (LF_bk ho (gives_e (k := 6) rfl)))
      | true =>
        cases h6 : okO (axX (X xs i) (X xs j2)) with
        | false =>
          rw [h5, h6, Bool.false_and, Bool.and_false] at h h2 ho
          exact tr (add_d _ _ _ _ h3 h4 h5 h6) (sh2 (RA_mv rfl rfl hi hj) (RA_mv rfl rfl hi2 hj2)) (T2_bk (RA_bk h.symm h2.symm) (LF_bk ho (gives_e (k := 6) rfl)))
        | true =>
          rw [h5, h6, Bool.true_and, Bool.true_and] at h h2 ho
          exact tr (add_e _ _ _ _ h3 h4 h5 h6) (sh2 (RA_mv rfl rfl hi hj) (RA_mv rfl rfl hi2 hj2)) (T2_bk (RA_bk h.symm h2.symm) (LF_bk ho (gives_e (k := 6) rfl)))
theorem sub_a {w0 : World} (a b c d : Raw) (h : rrX a b = false) : Con.sound (KN w0) Tryz.prog (FN [a, b, c, d] [.bool (rrX a b)]) ⟨15, [RA 0 1, RA 2 3], [], .t [.g ZC, .c (.k (.bool false))], []⟩ :=
  con_ok (C := [(7, .call ⟨43, [RA 0 1], [], LF (.h 100), []⟩),
    (10100, .fb 100 false)]) 0 (fine_FN rfl) ⟨c_rright (gives_e (k := 0) rfl), c_fb (gives_e (k := 0) (congrArg Value.bool h)), trivial⟩ mixed (by kernel_rfl)
theorem sub_b {w0 : World} (a b c d : Raw) (h : rrX a b = true) (h1 : rrX c d = false) : Con.sound (KN w0) Tryz.prog (FN [a, b, c, d] [.bool (rrX a b), .bool (rrX c d)]) ⟨15, [RA 0 1, RA 2 3], [], .t [.g ZC, .c (.k (.bool false))], []⟩ :=
  con_ok (C := [(7, .call ⟨43, [RA 0 1], [], LF (.h 100), []⟩),
    (11, .call ⟨43, [RA 2 3], [], LF (.h 101), []⟩),
    (10100, .fb 100 true),
    (10101, .fb 101 false)]) 0 (fine_FN rfl) ⟨c_rright (gives_e (k := 0) rfl), c_rright (gives_e (k := 1) rfl), c_fb (gives_e (k := 0) (congrArg Value.bool h)), c_fb (gives_e (k := 1) (congrArg Value.bool h1)), trivial⟩ mixed (by kernel_rfl)
theorem sub_c {w0 : World} (a b c d : Raw) (h : rrX a b = true) (h1 : rrX c d = true) : Con.sound (KN w0) Tryz.prog (FN [a, b, c, d, ngX c, nz (nO (addR (qX a b) (qX (ngX c) d))), nz ((dO (addR (qX a b) (qX (ngX c) d)) : Nat) : Int)] [.bool (rrX a b), .bool (rrX c d), .bool (addR (qX a b) (qX (ngX c) d)).isSome]) ⟨15, [RA 0 1, RA 2 3], [], .t [.g (nm 5 ++ nm 6), .c (.h 102)], []⟩ :=
  con_ok (C := [(7, .call ⟨43, [RA 0 1], [], LF (.h 100), []⟩),
    (11, .call ⟨43, [RA 2 3], [], LF (.h 101), []⟩),
    (10100, .fb 100 true),
    (10101, .fb 101 true),
    (18, .call ⟨61, [NM 2], [], NM 4, []⟩),
    (22, .call ⟨13, [RA 0 1, RA 4 3], [], .t [.g (nm 5 ++ nm 6), .c (.h 102)], []⟩)]) 0 (fine_FN rfl) ⟨c_rright (gives_e (k := 0) rfl), c_rright (gives_e (k := 1) rfl), c_fb (gives_e (k := 0) (congrArg Value.bool h)), c_fb (gives_e (k := 1) (congrArg Value.bool h1)), c_minus rfl, c_radd rfl rfl (gives_e (k := 2) rfl), trivial⟩ mixed (by kernel_rfl)
theorem c_rsub {xs : List Raw} {es : List Value} {w0 : World} {i j i2 j2 k k2 : Nat} {o : Lf} (h : X xs k = nz (nO (subR (qX (X xs i) (X xs j)) (qX (X xs i2) (X xs j2))))) (h2 : X xs k2 = nz ((dO (subR (qX (X xs i) (X xs j)) (qX (X xs i2) (X xs j2))) : Nat) : Int)) (ho : Gives (FN xs es) o (.bool (subR (qX (X xs i) (X xs j)) (qX (X xs i2) (X xs j2))).isSome)) (hi : i < 50 := by first | assumption | decide) (hj : j < 50 := by first | assumption | decide) (hi2 : i2 < 50 := by first | assumption | decide) (hj2 : j2 < 50 := by first | assumption | decide) (hk : k < 50 := by first | assumption | decide) (hk2 : k2 < 50 := by first | assumption | decide) : Con.sound (KN w0) Tryz.prog (FN xs es) ⟨15, [RA i j, RA i2 j2], [], .t [.g (nm k ++ nm k2), .c o], []⟩ := by
  refine dgR2 (fun d1 d2 d3 d4 => ?_) hi hj hi2 hj2
  cases h3 : rrX (X xs i) (X xs j) with
  | false =>
    rw [qX_none h3] at h h2 ho
    exact tr (sub_a _ _ _ _ h3) (sh2 (RA_mv rfl rfl hi hj) (RA_mv rfl rfl hi2 hj2)) (T2_bk (ZR_bk h h2 hk hk2) (LF_bk ho gives_k))
  | true =>
    obtain ⟨p, ep, ea, eb, hp, hp2⟩ := qX_some h3 d1 d2
    cases h4 : rrX (X xs i2) (X xs j2) with
    | false =>
      rw [qX_none h4, ep] at h h2 ho
      exact tr (sub_b _ _ _ _ h3 h4) (sh2 (RA_mv rfl rfl hi hj) (RA_mv rfl rfl hi2 hj2)) (T2_bk (ZR_bk h h2 hk hk2) (LF_bk ho gives_k))
    | true =>
      obtain ⟨r, er, ec, ed, hr, hr2⟩ := qX_some h4 d3 d4
      rw [ep, er] at h h2 ho
      have hp2' : ((p.den : Nat) : Int).natAbs < big := by simpa using hp2
      have hr2' : ((r.den : Nat) : Int).natAbs < big := by simpa using hr2
      have e : addR (qX (X xs i) (X xs j)) (qX (ngX (X xs i2)) (X xs j2)) = subR (some p) (some r) := by
        rw [ep, ec, ed, show ngX (nz r.num) = nz (-r.num) from neg_fit hr]
        have := qX_q (q := -r) (by simpa using hr) (by simpa using hr2)
        rw [Rat.neg_num, Rat.neg_den] at this
        rw [this]; rfl
      rw [← e] at h h2 ho
      exact tr (sub_c _ _ _ _ h3 h4) (sh2 (RA_mv rfl rfl hi hj) (RA_mv rfl rfl hi2 hj2)) (T2_bk (RA_bk h.symm h2.symm) (LF_bk ho (gives_e (k := 2) rfl)))
def pmX (a b c d : Raw) : Option Rat := ovX (okO (mulX a c)) (okO (mulX b d)) (nz (vO (mulX a c))) (nz (vO (mulX b d)))
theorem pm_math {x y z t : Int} (hx : x.natAbs < big) (hy : y.natAbs < big) (hz : z.natAbs < big) (ht : t.natAbs < big) : pmX (nz x) (nz y) (nz z) (nz t) = if (fitB (x * z) && fitB (y * t)) = true then ofR (x * z) (y * t) else none := by
  unfold pmX
  rw [mulX_nz hx hz, mulX_nz hy ht]
  by_cases h1 : (x * z).natAbs < big
  · rw [fitO_big h1]
    by_cases h2 : (y * t).natAbs < big
    · rw [fitO_big h2, if_pos (by rw [fitB_yes h1, fitB_yes h2]; rfl)]
      show ofX (nz (x * z)) (nz (y * t)) = _
      exact ofX_nz h1 h2
    · rw [fitO_no h2, if_neg (by simp [fitB_no h2])]
      unfold ovX
      rw [if_neg (by simp [okO])]
  · rw [fitO_no h1, if_neg (by simp [fitB_no h1])]
    unfold ovX
    rw [if_neg (by simp [okO])]
theorem mul_a {w0 : World} (a b c d : Raw) (h : rrX a b = false) : Con.sound (KN w0) Tryz.prog (FN [a, b, c, d] [.bool (rrX a b)]) ⟨18, [RA 0 1, RA 2 3], [], .t [.g ZC, .c (.k (.bool false))], []⟩ :=
  con_ok (C := [(7, .call ⟨43, [RA 0 1], [], LF (.h 100), []⟩),
    (10100, .fb 100 false)]) 0 (fine_FN rfl) ⟨c_rright (gives_e (k := 0) rfl), c_fb (gives_e (k := 0) (congrArg Value.bool h)), trivial⟩ mixed (by kernel_rfl)
theorem mul_b {w0 : World} (a b c d : Raw) (h : rrX a b = true) (h1 : rrX c d = false) : Con.sound (KN w0) Tryz.prog (FN [a, b, c, d] [.bool (rrX a b), .bool (rrX c d)]) ⟨18, [RA 0 1, RA 2 3], [], .t [.g ZC, .c (.k (.bool false))], []⟩ :=
  con_ok (C := [(7, .call ⟨43, [RA 0 1], [], LF (.h 100), []⟩),
    (11, .call ⟨43, [RA 2 3], [], LF (.h 101), []⟩),
    (10100, .fb 100 true),
    (10101, .fb 101 false)]) 0 (fine_FN rfl) ⟨c_rright (gives_e (k := 0) rfl), c_rright (gives_e (k := 1) rfl), c_fb (gives_e (k := 0) (congrArg Value.bool h)), c_fb (gives_e (k := 1) (congrArg Value.bool h1)), trivial⟩ mixed (by kernel_rfl)
theorem mul_c {w0 : World} (a b c d : Raw) (h : rrX a b = true) (h1 : rrX c d = true) : Con.sound (KN w0) Tryz.prog (FN [a, b, c, d, nz (vO (mulX a c)), nz (vO (mulX b d)), nz (nO (pmX a b c d)), nz ((dO (pmX a b c d) : Nat) : Int)] [.bool (rrX a b), .bool (rrX c d), .bool (okO (mulX a c)), .bool (okO (mulX b d)), .bool (pmX a b c d).isSome]) ⟨18, [RA 0 1, RA 2 3], [], .t [.g (nm 6 ++ nm 7), .c (.h 104)], []⟩ :=
  con_ok (C := [(7, .call ⟨43, [RA 0 1], [], LF (.h 100), []⟩),
    (11, .call ⟨43, [RA 2 3], [], LF (.h 101), []⟩),
    (10100, .fb 100 true),
    (10101, .fb 101 true),
    (19, .call ⟨56, [NM 0, NM 2], [], PR 4 (.h 102), []⟩),
    (24, .call ⟨56, [NM 1, NM 3], [], PR 5 (.h 103), []⟩),
    (25, .call ⟨58, [PR 4 (.h 102), PR 5 (.h 103)], [], .t [.g (nm 6 ++ nm 7), .c (.h 104)], []⟩)]) 0 (fine_FN rfl) ⟨c_rright (gives_e (k := 0) rfl), c_rright (gives_e (k := 1) rfl), c_fb (gives_e (k := 0) (congrArg Value.bool h)), c_fb (gives_e (k := 1) (congrArg Value.bool h1)), c_times rfl (gives_e (k := 2) rfl), c_times rfl (gives_e (k := 3) rfl), c_over (gives_e (k := 2) rfl) (gives_e (k := 3) rfl) rfl rfl (gives_e (k := 4) rfl), trivial⟩ mixed (by kernel_rfl)
theorem c_rmul {xs : List Raw} {es : List Value} {w0 : World} {i j i2 j2 k k2 : Nat} {o : Lf} (h : X xs k = nz (nO (mulR (qX (X xs i) (X xs j)) (qX (X xs i2) (X xs j2))))) (h2 : X xs k2 = nz ((dO (mulR (qX (X xs i) (X xs j)) (qX (X xs i2) (X xs j2))) : Nat) : Int)) (ho : Gives (FN xs es) o (.bool (mulR (qX (X xs i) (X xs j)) (qX (X xs i2) (X xs j2))).isSome)) (hi : i < 50 := by first | assumption | decide) (hj : j < 50 := by first | assumption | decide) (hi2 : i2 < 50 := by first | assumption | decide) (hj2 : j2 < 50 := by first | assumption | decide) (hk : k < 50 := by first | assumption | decide) (hk2 : k2 < 50 := by first | assumption | decide) : Con.sound (KN w0) Tryz.prog (FN xs es) ⟨18, [RA i j, RA i2 j2], [], .t [.g (nm k ++ nm k2), .c o], []⟩ := by
  refine dgR2 (fun d1 d2 d3 d4 => ?_) hi hj hi2 hj2
  cases h3 : rrX (X xs i) (X xs j) with
  | false =>
    rw [qX_none h3] at h h2 ho
    exact tr (mul_a _ _ _ _ h3) (sh2 (RA_mv rfl rfl hi hj) (RA_mv rfl rfl hi2 hj2)) (T2_bk (ZR_bk h h2 hk hk2) (LF_bk ho gives_k))
  | true =>
    obtain ⟨p, ep, ea, eb, hp, hp2⟩ := qX_some h3 d1 d2
    cases h4 : rrX (X xs i2) (X xs j2) with
    | false =>
      rw [qX_none h4, ep] at h h2 ho
      exact tr (mul_b _ _ _ _ h3 h4) (sh2 (RA_mv rfl rfl hi hj) (RA_mv rfl rfl hi2 hj2)) (T2_bk (ZR_bk h h2 hk hk2) (LF_bk ho gives_k))
    | true =>
      obtain ⟨r, er, ec, ed, hr, hr2⟩ := qX_some h4 d3 d4
      rw [ep, er] at h h2 ho
      have hp2' : ((p.den : Nat) : Int).natAbs < big := by simpa using hp2
      have hr2' : ((r.den : Nat) : Int).natAbs < big := by simpa using hr2
      have e : pmX (X xs i) (X xs j) (X xs i2) (X xs j2) = mulR (some p) (some r) := by
        rw [ea, eb, ec, ed, pm_math hp hp2' hr hr2', mul_of]; rfl
      rw [← e] at h h2 ho
      exact tr (mul_c _ _ _ _ h3 h4) (sh2 (RA_mv rfl rfl hi hj) (RA_mv rfl rfl hi2 hj2)) (T2_bk (RA_bk h.symm h2.symm) (LF_bk ho (gives_e (k := 4) rfl)))
def sgX (a b : Raw) : Int := if rrX a b = true then cmpX a (nz 0) else 0
theorem rsign_a {w0 : World} (a b : Raw) (h : rrX a b = false) : Con.sound (KN w0) Tryz.prog (FN [a, b] [.bool (rrX a b)]) ⟨26, [RA 0 1], [], LF (.k (.int .i64 0)), []⟩ :=
  con_ok (C := [(4, .call ⟨43, [RA 0 1], [], LF (.h 100), []⟩),
    (10100, .fb 100 false)]) 0 (fine_FN rfl) ⟨c_rright (gives_e (k := 0) rfl), c_fb (gives_e (k := 0) (congrArg Value.bool h)), trivial⟩ mixed (by kernel_rfl)
theorem rsign_b {w0 : World} (a b : Raw) (h : rrX a b = true) : Con.sound (KN w0) Tryz.prog (FN [a, b, nz 0] [.bool (rrX a b), .int .i64 (cmpX a (nz 0))]) ⟨26, [RA 0 1], [], LF (.h 101), []⟩ :=
  con_ok (C := [(4, .call ⟨43, [RA 0 1], [], LF (.h 100), []⟩),
    (10100, .fb 100 true),
    (8, .call ⟨65, [], [], NM 2, []⟩),
    (9, .call ⟨33, [NM 0, NM 2], [], LF (.h 101), []⟩)]) 0 (fine_FN rfl) ⟨c_rright (gives_e (k := 0) rfl), c_fb (gives_e (k := 0) (congrArg Value.bool h)), c_zero rfl, c_cmp (gives_e (k := 1) rfl), trivial⟩ mixed (by kernel_rfl)
theorem c_rsign {xs : List Raw} {es : List Value} {w0 : World} {i j : Nat} {o : Lf} (ho : Gives (FN xs es) o (.int .i64 (sgX (X xs i) (X xs j)))) (hi : i < 50 := by first | assumption | decide) (hj : j < 50 := by first | assumption | decide) : Con.sound (KN w0) Tryz.prog (FN xs es) ⟨26, [RA i j], [], LF o, []⟩ := by
  unfold sgX at ho
  cases h : rrX (X xs i) (X xs j) with
  | false =>
    rw [if_neg (by rw [h]; simp)] at ho
    exact tr (rsign_a _ _ h) (sh1 (RA_mv rfl rfl hi hj)) (LF_bk ho gives_k)
  | true =>
    rw [if_pos h] at ho
    exact tr (rsign_b _ _ h) (sh1 (RA_mv rfl rfl hi hj)) (LF_bk ho (gives_e (k := 1) rfl))
theorem refsign_a {w0 : World} (a b : Raw) (h : rrX a b = false) : Con.sound (KN w0) Tryz.prog (FN [a, b] [.bool (rrX a b)]) ⟨45, [RA 0 1], [], LF (.k (.int .i64 0)), []⟩ :=
  con_ok (C := [(4, .call ⟨44, [RA 0 1], [], LF (.h 100), []⟩),
    (10100, .fb 100 false)]) 0 (fine_FN rfl) ⟨c_refrright (gives_e (k := 0) rfl), c_fb (gives_e (k := 0) (congrArg Value.bool h)), trivial⟩ mixed (by kernel_rfl)
theorem refsign_b {w0 : World} (a b : Raw) (h : rrX a b = true) : Con.sound (KN w0) Tryz.prog (FN [a, b, nz 0] [.bool (rrX a b), .int .i64 (cmpX a (nz 0))]) ⟨45, [RA 0 1], [], LF (.h 101), []⟩ :=
  con_ok (C := [(4, .call ⟨44, [RA 0 1], [], LF (.h 100), []⟩),
    (10100, .fb 100 true),
    (8, .call ⟨55, [LF (.k (.int .i64 0))], [], NM 2, []⟩),
    (9, .call ⟨54, [NM 0, NM 2], [], LF (.h 101), []⟩)]) 0 (fine_FN rfl) ⟨c_refrright (gives_e (k := 0) rfl), c_fb (gives_e (k := 0) (congrArg Value.bool h)), c_whole gives_k (by decide) (by decide) rfl, c_refcmp (gives_e (k := 1) rfl), trivial⟩ mixed (by kernel_rfl)
theorem c_refsign {xs : List Raw} {es : List Value} {w0 : World} {i j : Nat} {o : Lf} (ho : Gives (FN xs es) o (.int .i64 (sgX (X xs i) (X xs j)))) (hi : i < 50 := by first | assumption | decide) (hj : j < 50 := by first | assumption | decide) : Con.sound (KN w0) Tryz.prog (FN xs es) ⟨45, [RA i j], [], LF o, []⟩ := by
  unfold sgX at ho
  cases h : rrX (X xs i) (X xs j) with
  | false =>
    rw [if_neg (by rw [h]; simp)] at ho
    exact tr (refsign_a _ _ h) (sh1 (RA_mv rfl rfl hi hj)) (LF_bk ho gives_k)
  | true =>
    rw [if_pos h] at ho
    exact tr (refsign_b _ _ h) (sh1 (RA_mv rfl rfl hi hj)) (LF_bk ho (gives_e (k := 1) rfl))
theorem div_a {w0 : World} (a b c d : Raw) (h : rrX a b = false) : Con.sound (KN w0) Tryz.prog (FN [a, b, c, d] [.bool (rrX a b)]) ⟨20, [RA 0 1, RA 2 3], [], .t [.g ZC, .c (.k (.bool false))], []⟩ :=
  con_ok (C := [(7, .call ⟨43, [RA 0 1], [], LF (.h 100), []⟩),
    (10100, .fb 100 false)]) 0 (fine_FN rfl) ⟨c_rright (gives_e (k := 0) rfl), c_fb (gives_e (k := 0) (congrArg Value.bool h)), trivial⟩ mixed (by kernel_rfl)
theorem div_b {w0 : World} (a b c d : Raw) (h : rrX a b = true) (h1 : (sgX c d == 0) = true) : Con.sound (KN w0) Tryz.prog (FN [a, b, c, d] [.bool (rrX a b), .int .i64 (sgX c d)]) ⟨20, [RA 0 1, RA 2 3], [], .t [.g ZC, .c (.k (.bool false))], []⟩ :=
  con_ok (C := [(7, .call ⟨43, [RA 0 1], [], LF (.h 100), []⟩),
    (11, .call ⟨26, [RA 2 3], [], LF (.h 101), []⟩),
    (10100, .fb 100 true),
    (12, .bin .eql 3 (LF (.h 101)) (LF (.k (.int .i64 0))) (LF (.k (.bool true))))]) 0 (fine_FN rfl) ⟨c_rright (gives_e (k := 0) rfl), c_rsign (gives_e (k := 1) rfl), c_fb (gives_e (k := 0) (congrArg Value.bool h)), c_bin (gives_e (k := 1) rfl) gives_k (congrArg some h1) gives_k, trivial⟩ mixed (by kernel_rfl)
theorem div_c {w0 : World} (a b c d : Raw) (h : rrX a b = true) (h1 : (sgX c d == 0) = false) : Con.sound (KN w0) Tryz.prog (FN [a, b, c, d, nz (vO (mulX a d)), nz (vO (mulX b c)), nz (nO (pmX a b d c)), nz ((dO (pmX a b d c) : Nat) : Int)] [.bool (rrX a b), .int .i64 (sgX c d), .bool (okO (mulX a d)), .bool (okO (mulX b c)), .bool (pmX a b d c).isSome]) ⟨20, [RA 0 1, RA 2 3], [], .t [.g (nm 6 ++ nm 7), .c (.h 104)], []⟩ :=
  con_ok (C := [(7, .call ⟨43, [RA 0 1], [], LF (.h 100), []⟩),
    (11, .call ⟨26, [RA 2 3], [], LF (.h 101), []⟩),
    (10100, .fb 100 true),
    (12, .bin .eql 3 (LF (.h 101)) (LF (.k (.int .i64 0))) (LF (.k (.bool false)))),
    (19, .call ⟨56, [NM 0, NM 3], [], PR 4 (.h 102), []⟩),
    (24, .call ⟨56, [NM 1, NM 2], [], PR 5 (.h 103), []⟩),
    (25, .call ⟨58, [PR 4 (.h 102), PR 5 (.h 103)], [], .t [.g (nm 6 ++ nm 7), .c (.h 104)], []⟩)]) 0 (fine_FN rfl) ⟨c_rright (gives_e (k := 0) rfl), c_rsign (gives_e (k := 1) rfl), c_fb (gives_e (k := 0) (congrArg Value.bool h)), c_bin (gives_e (k := 1) rfl) gives_k (congrArg some h1) gives_k, c_times rfl (gives_e (k := 2) rfl), c_times rfl (gives_e (k := 3) rfl), c_over (gives_e (k := 2) rfl) (gives_e (k := 3) rfl) rfl rfl (gives_e (k := 4) rfl), trivial⟩ mixed (by kernel_rfl)
theorem sg_none {c d : Raw} (h : rrX c d = false) : (sgX c d == 0) = true := by
  unfold sgX
  rw [if_neg (by rw [h]; simp)]; rfl
theorem sg_q {r : Rat} (hr : r.num.natAbs < big) (hr2 : r.den < big) : (sgX (nz r.num) (nz (r.den : Int)) == 0) = decide (r.num = 0) := by
  unfold sgX
  rw [if_pos (rrX_q hr hr2), eq_zero hr]
theorem div_math {p r : Rat} (hp : p.num.natAbs < big) (hp2 : p.den < big) (hr : r.num.natAbs < big) (hr2 : r.den < big) (h : r.num ≠ 0) : pmX (nz p.num) (nz (p.den : Int)) (nz (r.den : Int)) (nz r.num) = divR (some p) (some r) := by
  rw [pm_math hp (by simpa using hp2) (by simpa using hr2) hr]
  unfold divR
  simp only
  rw [if_neg h, div_of p r h]
theorem c_rdiv {xs : List Raw} {es : List Value} {w0 : World} {i j i2 j2 k k2 : Nat} {o : Lf} (h : X xs k = nz (nO (divR (qX (X xs i) (X xs j)) (qX (X xs i2) (X xs j2))))) (h2 : X xs k2 = nz ((dO (divR (qX (X xs i) (X xs j)) (qX (X xs i2) (X xs j2))) : Nat) : Int)) (ho : Gives (FN xs es) o (.bool (divR (qX (X xs i) (X xs j)) (qX (X xs i2) (X xs j2))).isSome)) (hi : i < 50 := by first | assumption | decide) (hj : j < 50 := by first | assumption | decide) (hi2 : i2 < 50 := by first | assumption | decide) (hj2 : j2 < 50 := by first | assumption | decide) (hk : k < 50 := by first | assumption | decide) (hk2 : k2 < 50 := by first | assumption | decide) : Con.sound (KN w0) Tryz.prog (FN xs es) ⟨20, [RA i j, RA i2 j2], [], .t [.g (nm k ++ nm k2), .c o], []⟩ := by
  refine dgR2 (fun d1 d2 d3 d4 => ?_) hi hj hi2 hj2
  cases h3 : rrX (X xs i) (X xs j) with
  | false =>
    rw [qX_none h3] at h h2 ho
    exact tr (div_a _ _ _ _ h3) (sh2 (RA_mv rfl rfl hi hj) (RA_mv rfl rfl hi2 hj2)) (T2_bk (ZR_bk h h2 hk hk2) (LF_bk ho gives_k))
  | true =>
    obtain ⟨p, ep, ea, eb, hp, hp2⟩ := qX_some h3 d1 d2
    cases h4 : rrX (X xs i2) (X xs j2) with
    | false =>
      rw [qX_none h4, ep] at h h2 ho
      exact tr (div_b _ _ _ _ h3 (sg_none h4)) (sh2 (RA_mv rfl rfl hi hj) (RA_mv rfl rfl hi2 hj2)) (T2_bk (ZR_bk h h2 hk hk2) (LF_bk ho gives_k))
    | true =>
      obtain ⟨r, er, ec, ed, hr, hr2⟩ := qX_some h4 d3 d4
      rw [ep, er] at h h2 ho
      have hp2' : ((p.den : Nat) : Int).natAbs < big := by simpa using hp2
      have hr2' : ((r.den : Nat) : Int).natAbs < big := by simpa using hr2
      have hs := sg_q hr hr2
      rw [← ec, ← ed] at hs
      cases hz : sgX (X xs i2) (X xs j2) == 0 with
      | true =>
        have h0 : r.num = 0 := of_decide_eq_true (hs.symm.trans hz)
        have e : divR (some p) (some r) = none := by unfold divR; simp only; rw [if_pos h0]
        rw [e] at h h2 ho
        exact tr (div_b _ _ _ _ h3 hz) (sh2 (RA_mv rfl rfl hi hj) (RA_mv rfl rfl hi2 hj2)) (T2_bk (ZR_bk h h2 hk hk2) (LF_bk ho gives_k))
      | false =>
        have h0 : r.num ≠ 0 := of_decide_eq_false (hs.symm.trans hz)
        have e := div_math hp hp2 hr hr2 h0
        rw [← ea, ← eb, ← ec, ← ed] at e
        rw [← e] at h h2 ho
        exact tr (div_c _ _ _ _ h3 hz) (sh2 (RA_mv rfl rfl hi hj) (RA_mv rfl rfl hi2 hj2)) (T2_bk (RA_bk h.symm h2.symm) (LF_bk ho (gives_e (k := 4) rfl)))
def flX (a b : Raw) : Option Int := if rrX a b = true then intX (nz (dqO (divX a b))) else none
def ceX (a b : Raw) : Option Int := if rrX a b = true then intX (ngX (nz (dqO (divX (ngX a) b)))) else none
theorem rfloor_a {w0 : World} (a b : Raw) (h : rrX a b = false) : Con.sound (KN w0) Tryz.prog (FN [a, b] [.bool (rrX a b)]) ⟨39, [RA 0 1], [], .t [.c (.k (.int .i64 0)), .c (.k (.bool false))], []⟩ :=
  con_ok (C := [(5, .call ⟨43, [RA 0 1], [], LF (.h 100), []⟩),
    (10100, .fb 100 false)]) 0 (fine_FN rfl) ⟨c_rright (gives_e (k := 0) rfl), c_fb (gives_e (k := 0) (congrArg Value.bool h)), trivial⟩ mixed (by kernel_rfl)
theorem rfloor_b {w0 : World} (a b : Raw) (h : rrX a b = true) : Con.sound (KN w0) Tryz.prog (FN [a, b, nz (dqO (divX a b))] [.bool (rrX a b), .int .i64 (vO (intX (nz (dqO (divX a b))))), .bool (okO (intX (nz (dqO (divX a b)))))]) ⟨39, [RA 0 1], [], .t [.c (.h 101), .c (.h 102)], []⟩ :=
  con_ok (C := [(5, .call ⟨43, [RA 0 1], [], LF (.h 100), []⟩),
    (10100, .fb 100 true),
    (11, .call ⟨79, [NM 0, NM 1], [], NM 2, []⟩),
    (12, .call ⟨78, [NM 2], [], .t [.c (.h 101), .c (.h 102)], []⟩)]) 0 (fine_FN rfl) ⟨c_rright (gives_e (k := 0) rfl), c_fb (gives_e (k := 0) (congrArg Value.bool h)), c_quotient rfl, c_int (gives_e (k := 1) rfl) (gives_e (k := 2) rfl), trivial⟩ mixed (by kernel_rfl)
theorem c_rfloor {xs : List Raw} {es : List Value} {w0 : World} {i j : Nat} {o o2 : Lf} (ho : Gives (FN xs es) o (.int .i64 (vO (flX (X xs i) (X xs j))))) (ho2 : Gives (FN xs es) o2 (.bool (okO (flX (X xs i) (X xs j))))) (hi : i < 50 := by first | assumption | decide) (hj : j < 50 := by first | assumption | decide) : Con.sound (KN w0) Tryz.prog (FN xs es) ⟨39, [RA i j], [], .t [.c o, .c o2], []⟩ := by
  unfold flX at ho ho2
  cases h : rrX (X xs i) (X xs j) with
  | false =>
    rw [if_neg (by rw [h]; simp)] at ho ho2
    exact tr (rfloor_a _ _ h) (sh1 (RA_mv rfl rfl hi hj)) (T2_bk (LF_bk ho gives_k) (LF_bk ho2 gives_k))
  | true =>
    rw [if_pos h] at ho ho2
    exact tr (rfloor_b _ _ h) (sh1 (RA_mv rfl rfl hi hj)) (T2_bk (LF_bk ho (gives_e (k := 1) rfl)) (LF_bk ho2 (gives_e (k := 2) rfl)))
theorem rceil_a {w0 : World} (a b : Raw) (h : rrX a b = false) : Con.sound (KN w0) Tryz.prog (FN [a, b] [.bool (rrX a b)]) ⟨41, [RA 0 1], [], .t [.c (.k (.int .i64 0)), .c (.k (.bool false))], []⟩ :=
  con_ok (C := [(5, .call ⟨43, [RA 0 1], [], LF (.h 100), []⟩),
    (10100, .fb 100 false)]) 0 (fine_FN rfl) ⟨c_rright (gives_e (k := 0) rfl), c_fb (gives_e (k := 0) (congrArg Value.bool h)), trivial⟩ mixed (by kernel_rfl)
theorem rceil_b {w0 : World} (a b : Raw) (h : rrX a b = true) : Con.sound (KN w0) Tryz.prog (FN [a, b, ngX a, nz (dqO (divX (ngX a) b)), ngX (nz (dqO (divX (ngX a) b)))] [.bool (rrX a b), .int .i64 (vO (intX (ngX (nz (dqO (divX (ngX a) b)))))), .bool (okO (intX (ngX (nz (dqO (divX (ngX a) b))))))]) ⟨41, [RA 0 1], [], .t [.c (.h 101), .c (.h 102)], []⟩ :=
  con_ok (C := [(5, .call ⟨43, [RA 0 1], [], LF (.h 100), []⟩),
    (10100, .fb 100 true),
    (9, .call ⟨61, [NM 0], [], NM 2, []⟩),
    (12, .call ⟨79, [NM 2, NM 1], [], NM 3, []⟩),
    (13, .call ⟨61, [NM 3], [], NM 4, []⟩),
    (14, .call ⟨78, [NM 4], [], .t [.c (.h 101), .c (.h 102)], []⟩)]) 0 (fine_FN rfl) ⟨c_rright (gives_e (k := 0) rfl), c_fb (gives_e (k := 0) (congrArg Value.bool h)), c_minus rfl, c_quotient rfl, c_minus rfl, c_int (gives_e (k := 1) rfl) (gives_e (k := 2) rfl), trivial⟩ mixed (by kernel_rfl)
theorem c_rceil {xs : List Raw} {es : List Value} {w0 : World} {i j : Nat} {o o2 : Lf} (ho : Gives (FN xs es) o (.int .i64 (vO (ceX (X xs i) (X xs j))))) (ho2 : Gives (FN xs es) o2 (.bool (okO (ceX (X xs i) (X xs j))))) (hi : i < 50 := by first | assumption | decide) (hj : j < 50 := by first | assumption | decide) : Con.sound (KN w0) Tryz.prog (FN xs es) ⟨41, [RA i j], [], .t [.c o, .c o2], []⟩ := by
  unfold ceX at ho ho2
  cases h : rrX (X xs i) (X xs j) with
  | false =>
    rw [if_neg (by rw [h]; simp)] at ho ho2
    exact tr (rceil_a _ _ h) (sh1 (RA_mv rfl rfl hi hj)) (T2_bk (LF_bk ho gives_k) (LF_bk ho2 gives_k))
  | true =>
    rw [if_pos h] at ho ho2
    exact tr (rceil_b _ _ h) (sh1 (RA_mv rfl rfl hi hj)) (T2_bk (LF_bk ho (gives_e (k := 1) rfl)) (LF_bk ho2 (gives_e (k := 2) rfl)))
theorem reffloor_a {w0 : World} (a b : Raw) (h : rrX a b = false) : Con.sound (KN w0) Tryz.prog (FN [a, b] [.bool (rrX a b)]) ⟨40, [RA 0 1], [], .t [.c (.k (.int .i64 0)), .c (.k (.bool false))], []⟩ :=
  con_ok (C := [(5, .call ⟨44, [RA 0 1], [], LF (.h 100), []⟩),
    (10100, .fb 100 false)]) 0 (fine_FN rfl) ⟨c_refrright (gives_e (k := 0) rfl), c_fb (gives_e (k := 0) (congrArg Value.bool h)), trivial⟩ mixed (by kernel_rfl)
theorem reffloor_b {w0 : World} (a b : Raw) (h : rrX a b = true) : Con.sound (KN w0) Tryz.prog (FN [a, b, nz (dqO (divX a b))] [.bool (rrX a b), .int .i64 (vO (intX (nz (dqO (divX a b))))), .bool (okO (intX (nz (dqO (divX a b)))))]) ⟨40, [RA 0 1], [], .t [.c (.h 101), .c (.h 102)], []⟩ :=
  con_ok (C := [(5, .call ⟨44, [RA 0 1], [], LF (.h 100), []⟩),
    (10100, .fb 100 true),
    (11, .call ⟨81, [NM 0, NM 1], [], NM 2, []⟩),
    (12, .call ⟨80, [NM 2], [], .t [.c (.h 101), .c (.h 102)], []⟩)]) 0 (fine_FN rfl) ⟨c_refrright (gives_e (k := 0) rfl), c_fb (gives_e (k := 0) (congrArg Value.bool h)), c_refover rfl, c_refint (gives_e (k := 1) rfl) (gives_e (k := 2) rfl), trivial⟩ mixed (by kernel_rfl)
theorem c_reffloor {xs : List Raw} {es : List Value} {w0 : World} {i j : Nat} {o o2 : Lf} (ho : Gives (FN xs es) o (.int .i64 (vO (flX (X xs i) (X xs j))))) (ho2 : Gives (FN xs es) o2 (.bool (okO (flX (X xs i) (X xs j))))) (hi : i < 50 := by first | assumption | decide) (hj : j < 50 := by first | assumption | decide) : Con.sound (KN w0) Tryz.prog (FN xs es) ⟨40, [RA i j], [], .t [.c o, .c o2], []⟩ := by
  unfold flX at ho ho2
  cases h : rrX (X xs i) (X xs j) with
  | false =>
    rw [if_neg (by rw [h]; simp)] at ho ho2
    exact tr (reffloor_a _ _ h) (sh1 (RA_mv rfl rfl hi hj)) (T2_bk (LF_bk ho gives_k) (LF_bk ho2 gives_k))
  | true =>
    rw [if_pos h] at ho ho2
    exact tr (reffloor_b _ _ h) (sh1 (RA_mv rfl rfl hi hj)) (T2_bk (LF_bk ho (gives_e (k := 1) rfl)) (LF_bk ho2 (gives_e (k := 2) rfl)))
theorem refceil_a {w0 : World} (a b : Raw) (h : rrX a b = false) : Con.sound (KN w0) Tryz.prog (FN [a, b] [.bool (rrX a b)]) ⟨42, [RA 0 1], [], .t [.c (.k (.int .i64 0)), .c (.k (.bool false))], []⟩ :=
  con_ok (C := [(5, .call ⟨44, [RA 0 1], [], LF (.h 100), []⟩),
    (10100, .fb 100 false)]) 0 (fine_FN rfl) ⟨c_refrright (gives_e (k := 0) rfl), c_fb (gives_e (k := 0) (congrArg Value.bool h)), trivial⟩ mixed (by kernel_rfl)
theorem refceil_b {w0 : World} (a b : Raw) (h : rrX a b = true) : Con.sound (KN w0) Tryz.prog (FN [a, b, ngX a, nz (dqO (divX (ngX a) b)), ngX (nz (dqO (divX (ngX a) b)))] [.bool (rrX a b), .int .i64 (vO (intX (ngX (nz (dqO (divX (ngX a) b)))))), .bool (okO (intX (ngX (nz (dqO (divX (ngX a) b))))))]) ⟨42, [RA 0 1], [], .t [.c (.h 101), .c (.h 102)], []⟩ :=
  con_ok (C := [(5, .call ⟨44, [RA 0 1], [], LF (.h 100), []⟩),
    (10100, .fb 100 true),
    (9, .call ⟨62, [NM 0], [], NM 2, []⟩),
    (12, .call ⟨81, [NM 2, NM 1], [], NM 3, []⟩),
    (13, .call ⟨62, [NM 3], [], NM 4, []⟩),
    (14, .call ⟨80, [NM 4], [], .t [.c (.h 101), .c (.h 102)], []⟩)]) 0 (fine_FN rfl) ⟨c_refrright (gives_e (k := 0) rfl), c_fb (gives_e (k := 0) (congrArg Value.bool h)), c_opposite rfl, c_refover rfl, c_opposite rfl, c_refint (gives_e (k := 1) rfl) (gives_e (k := 2) rfl), trivial⟩ mixed (by kernel_rfl)
theorem c_refceil {xs : List Raw} {es : List Value} {w0 : World} {i j : Nat} {o o2 : Lf} (ho : Gives (FN xs es) o (.int .i64 (vO (ceX (X xs i) (X xs j))))) (ho2 : Gives (FN xs es) o2 (.bool (okO (ceX (X xs i) (X xs j))))) (hi : i < 50 := by first | assumption | decide) (hj : j < 50 := by first | assumption | decide) : Con.sound (KN w0) Tryz.prog (FN xs es) ⟨42, [RA i j], [], .t [.c o, .c o2], []⟩ := by
  unfold ceX at ho ho2
  cases h : rrX (X xs i) (X xs j) with
  | false =>
    rw [if_neg (by rw [h]; simp)] at ho ho2
    exact tr (refceil_a _ _ h) (sh1 (RA_mv rfl rfl hi hj)) (T2_bk (LF_bk ho gives_k) (LF_bk ho2 gives_k))
  | true =>
    rw [if_pos h] at ho ho2
    exact tr (refceil_b _ _ h) (sh1 (RA_mv rfl rfl hi hj)) (T2_bk (LF_bk ho (gives_e (k := 1) rfl)) (LF_bk ho2 (gives_e (k := 2) rfl)))
end Go.Proofs.YtccjiodohphgnaaGreatDoor

namespace Go.Proofs.YtccjiodohphgnaaGreatDoor
open Go.RowKit Go.Shelf

/-- The same box of other facts; the same slot. -/
theorem oks_mvF {xs xs' : List Raw} {es es' : List Value} {i i' : Nat} {β : Loc} {W : World} {l l' : List Lf} (h : X xs i = X xs' i') (hl : ∀ vs, oks (FN xs es) β l vs W → oks (FN xs' es') β l' vs W) (hi : i < 50 := by first | assumption | decide) (hi' : i' < 50 := by first | assumption | decide) (vs : List Value) (hv : oks (FN xs es) β (nm i ++ l) vs W) : oks (FN xs' es') β (nm i' ++ l') vs W := by
  rw [nm_oks hi] at hv
  obtain ⟨A, n, c, us, e, s, h2⟩ := hv
  rw [nm_oks hi']
  rw [h] at e s
  exact ⟨A, n, c, us, e, s, hl us h2⟩
theorem oks_nilF {F F' : Fact} {β : Loc} {W : World} (vs : List Value) (h : oks F β [] vs W) : oks F' β [] vs W := by cases vs <;> exact h
theorem z_bxR {K : Kit} {xs xs' : List Raw} {es es' : List Value} {b i j i' j' : Nat} {T : TypeId} (h : X xs i = X xs' i') (h2 : X xs j = X xs' j') (hi : i < 50 := by first | assumption | decide) (hi' : i' < 50 := by first | assumption | decide) (hj : j < 50 := by first | assumption | decide) (hj' : j' < 50 := by first | assumption | decide) (β : Loc) (a : Act) (W : World) (hA : (Atom.bx b T (nm i ++ nm j)).ok K (FN xs es) β a W) : (Atom.bx b T (nm i' ++ nm j')).ok K (FN xs' es') β a W := by
  obtain ⟨q, vs, h0, h1, h3, h4⟩ := hA
  rw [show nm j = nm j ++ [] by simp] at h3
  rw [show nm j' = nm j' ++ [] by simp]
  exact ⟨q, vs, h0, h1, oks_mvF h (fun us => oks_mvF h2 (fun us => oks_nilF us) hj hj' us) hi hi' _ h3, h4⟩
theorem z_p {K : Kit} {F F' : Fact} {s b o : Nat} (β : Loc) (a : Act) (W : World) (hA : (Atom.sl s (LF (.p b o))).ok K F β a W) : (Atom.sl s (LF (.p b o))).ok K F' β a W := hA
theorem z_L {K : Kit} {F F' : Fact} {s : Nat} {L L' : Lf} {u : Value} (h : Gives F L u) (h' : Gives F' L' u) (β : Loc) (a : Act) (W : World) (hA : (Atom.sl s (LF L)).ok K F β a W) : (Atom.sl s (LF L')).ok K F' β a W := (h' β _ W).2 ((h β _ W).1 hA)
/-- A difference of two ints; a product. -/
theorem c_un {K : Kit} {P : Program} {F : Fact} {x o : Lf} {a : Int} (hx : Gives F x (.int .i64 a)) (ho : Gives F o (.int .i64 (IntKind.i64.wrap (0 - a)))) : Ent.sound K P F (.un .neg (LF x) (LF o)) := by
  intro β W vx h1
  rw [(hx β vx W).1 h1]
  exact ⟨_, rfl, (ho β _ W).2 rfl⟩
theorem bin_arith {P : Program} {W : World} {op : BinOp} {k : IntKind} {x y z : Int} (T : TypeId) (A B : Operand) (h : (op = .mul ∧ z = k.wrap (x * y)) ∨ (op = .add ∧ z = k.wrap (x + y)) ∨ (op = .sub ∧ z = k.wrap (x - y))) : (do eqGuard op T A B (.int k x) (.int k y); binOp op T (.int k x) (.int k y) : Sem Value).run P W = .ok (.int k z) W := by
  rcases h with ⟨rfl, rfl⟩ | ⟨rfl, rfl⟩ | ⟨rfl, rfl⟩ <;> simp [eqGuard, binOp, Op.intArith]
theorem c_arith {K : Kit} {P : Program} {F : Fact} {op : BinOp} {T : TypeId} {x y o : Lf} {k : IntKind} {a b z : Int} (hx : Gives F x (.int k a)) (hy : Gives F y (.int k b)) (hz : (op = .mul ∧ z = k.wrap (a * b)) ∨ (op = .add ∧ z = k.wrap (a + b)) ∨ (op = .sub ∧ z = k.wrap (a - b))) (ho : Gives F o (.int k z)) : Ent.sound K P F (.bin op T (LF x) (LF y) (LF o)) := by
  intro β W vx vy h1 h2
  rw [(hx β vx W).1 h1, (hy β vy W).1 h2]
  exact ⟨_, fun A B => bin_arith T A B hz, (ho β _ W).2 rfl⟩

/-- The comparison by continued fractions: what comes out, and the sign. -/
def cf : Nat → Int → Int → Int → Int → Int → Int × Int
  | 0, _, _, _, _, s => (0, s)
  | k + 1, n1, d1, n2, d2, s => if cmpI (n1 / d1) (n2 / d2) ≠ 0 then (cmpI (n1 / d1) (n2 / d2), s) else if n1 % d1 = 0 ∨ n2 % d2 = 0 then (cmpI (n1 % d1) (n2 % d2), s) else cf k d1 (n1 % d1) d2 (n2 % d2) (-s)
theorem cmpI_z {x y : Int} : cmpI x y = 0 ↔ x = y := by unfold cmpI; split <;> (try split) <;> omega
theorem cf_val : ∀ (k : Nat) {n1 d1 n2 d2 s : Int}, 0 < d1 → 0 < d2 → d1.toNat < k → (cf k n1 d1 n2 d2 s).2 * (cf k n1 d1 n2 d2 s).1 = s * cmpI (n1 * d2) (n2 * d1)
  | 0, _, _, _, _, _, _, _, h => by omega
  | k + 1, n1, d1, n2, d2, s, h1, h2, h => by
    have e1 : n1 = n1 / d1 * d1 + n1 % d1 := by have := Int.mul_ediv_add_emod n1 d1; rw [Int.mul_comm] at this; omega
    have e2 : n2 = n2 / d2 * d2 + n2 % d2 := by have := Int.mul_ediv_add_emod n2 d2; rw [Int.mul_comm] at this; omega
    have r0 := Int.emod_nonneg n1 (show d1 ≠ 0 by omega)
    have r1 := Int.emod_lt_of_pos n1 h1
    have s0 := Int.emod_nonneg n2 (show d2 ≠ 0 by omega)
    have s1 := Int.emod_lt_of_pos n2 h2
    unfold cf
    by_cases hc : cmpI (n1 / d1) (n2 / d2) ≠ 0
    · rw [if_pos hc]
      rw [cf_ne e1 e2 r0 r1 s0 s1 (fun e => hc (cmpI_z.2 e))]
    · rw [if_neg hc]
      have hq : n1 / d1 = n2 / d2 := cmpI_z.1 (Classical.byContradiction fun h => hc h)
      have e3 : cmpI (n1 * d2) (n2 * d1) = cmpI (n1 % d1 * d2) (n2 % d2 * d1) := cf_eq e1 (by rw [hq]; exact e2)
      rw [e3]
      by_cases hz : n1 % d1 = 0 ∨ n2 % d2 = 0
      · rw [if_pos hz, cf_zero r0 r1 s0 s1 hz]
      · rw [if_neg hz, cf_val k (by omega) (by omega) (by omega), cf_turn, Int.neg_mul, Int.mul_neg, Int.neg_neg]
/-- Where a round stands. -/
structure CT where
  n1 : Int
  d1 : Int
  n2 : Int
  d2 : Int
  s : Int
  k : Nat
def CT.F (t : CT) : Fact := FN [nz t.n1, nz t.d1, nz t.n2, nz t.d2] [.int .i64 t.s]
def CT.J (o : Int × Int) (t : CT) : Prop := 0 < t.d1 ∧ 0 < t.d2 ∧ t.n1.natAbs < big ∧ t.d1.natAbs < big ∧ t.n2.natAbs < big ∧ t.d2.natAbs < big ∧ (t.s = 1 ∨ t.s = -1) ∧ t.d1.toNat < t.k ∧ cf t.k t.n1 t.d1 t.n2 t.d2 t.s = o
def cmpInv : List Atom := [.sl 2 (LF (.p 0 0)), .sl 3 (LF (.p 1 0)), .bx 0 28 (nm 0 ++ nm 1), .bx 1 28 (nm 2 ++ nm 3), .sl 6 (LF (.h 100))]
def cmpS_ : LoopS := ⟨4, [.sl 2 (LF (.p 0 0)), .sl 3 (LF (.p 1 0)), .bx 0 28 (nm 0 ++ nm 1), .bx 1 28 (nm 2 ++ nm 3), .sl 6 (LF (.k (.int .i64 1)))], .x 0, [.sl 5 (LF (.h 102)), .sl 6 (LF (.h 103))]⟩
theorem cmp_a {w0 : World} (a b c d : Raw) (h : rrX a b = false) : Con.sound (KN w0) Tryz.prog (FN [a, b, c, d] [.bool (rrX a b), .bool (rrX c d)]) ⟨22, [RA 0 1, RA 2 3], [], LF (.k (.int .i64 0)), []⟩ :=
  con_ok (C := [(14, .call ⟨43, [RA 0 1], [], LF (.h 100), []⟩),
    (10100, .fb 100 false)]) 0 (fine_FN rfl) ⟨c_rright (gives_e (k := 0) rfl), c_fb (gives_e (k := 0) (congrArg Value.bool h)), trivial⟩ mixed (by kernel_rfl)
theorem cmp_b {w0 : World} (a b c d : Raw) (h : rrX a b = true) (h1 : rrX c d = false) : Con.sound (KN w0) Tryz.prog (FN [a, b, c, d] [.bool (rrX a b), .bool (rrX c d)]) ⟨22, [RA 0 1, RA 2 3], [], LF (.k (.int .i64 0)), []⟩ :=
  con_ok (C := [(14, .call ⟨43, [RA 0 1], [], LF (.h 100), []⟩),
    (18, .call ⟨43, [RA 2 3], [], LF (.h 101), []⟩),
    (10100, .fb 100 true),
    (10101, .fb 101 false)]) 0 (fine_FN rfl) ⟨c_rright (gives_e (k := 0) rfl), c_rright (gives_e (k := 1) rfl), c_fb (gives_e (k := 0) (congrArg Value.bool h)), c_fb (gives_e (k := 1) (congrArg Value.bool h1)), trivial⟩ mixed (by kernel_rfl)
theorem wrap_one {s : Int} (h : s = 1 ∨ s = -1) : IntKind.i64.wrap (0 - s) = -s := by rcases h with rfl | rfl <;> decide
theorem cmp_loop {w0 : World} (xs : List Raw) (es : List Value) (n1 d1 n2 d2 : Int) (k : Nat) (o : Int × Int) (hx : X xs 0 = nz n1 ∧ X xs 1 = nz d1 ∧ X xs 2 = nz n2 ∧ X xs 3 = nz d2) (he : Gives (FN xs es) (.h 102) (.int .i64 o.1) ∧ Gives (FN xs es) (.h 103) (.int .i64 o.2)) (hJ : CT.J o ⟨n1, d1, n2, d2, 1, k⟩) (R : Frm) (hnt : R.pm = ⟨ntOf Tryz.prog 22, [], []⟩) : LoopHolds (KN w0) Tryz.prog (FN xs es) R cmpS_ (lp Tryz.prog 22 0) := by
  refine loop_holds CT.F (CT.J o) CT.k ⟨n1, d1, n2, d2, 1, k⟩ cmpInv hJ (zipA.imp ⟨z_p, z_p, z_bxR hx.1 hx.2.1, z_bxR hx.2.2.1 hx.2.2.2, z_L gives_k (gives_e (k := 0) rfl), trivial⟩) rfl ?_
  clear hJ hx n1 d1 n2 d2 k
  rintro ⟨n1, d1, n2, d2, s, k⟩ ⟨h1, h2, b1, b2, b3, b4, hs, hk, hcf⟩
  simp only at h1 h2 b1 b2 b3 b4 hs hk hcf
  obtain ⟨k', rfl⟩ : ∃ k', k = k' + 1 := ⟨k - 1, by omega⟩
  have r0 := Int.emod_nonneg n1 (show d1 ≠ 0 by omega)
  have r1 := Int.emod_lt_of_pos n1 h1
  have s0 := Int.emod_nonneg n2 (show d2 ≠ 0 by omega)
  have s1 := Int.emod_lt_of_pos n2 h2
  have dv1 := divX_nz b1 b2 (by omega)
  have dv2 := divX_nz b3 b4 (by omega)
  have eq : nz (n1 / d1) = nz (dqO (divX (nz n1) (nz d1))) := by rw [dv1]; rfl
  have er : nz (n1 % d1) = nz (drO (divX (nz n1) (nz d1))) := by rw [dv1]; rfl
  have eo : Value.bool true = .bool (divX (nz n1) (nz d1)).isSome := by rw [dv1]; rfl
  have vq : nz (n2 / d2) = nz (dqO (divX (nz n2) (nz d2))) := by rw [dv2]; rfl
  have vr : nz (n2 % d2) = nz (drO (divX (nz n2) (nz d2))) := by rw [dv2]; rfl
  have vo : Value.bool true = .bool (divX (nz n2) (nz d2)).isSome := by rw [dv2]; rfl
  have bq : (n1 / d1).natAbs < big := by have := div_big (v := d1.toNat) b1; rwa [Int.toNat_of_nonneg (by omega)] at this
  have bq2 : (n2 / d2).natAbs < big := by have := div_big (v := d2.toNat) b3; rwa [Int.toNat_of_nonneg (by omega)] at this
  have br : (n1 % d1).natAbs < big := by omega
  have br2 : (n2 % d2).natAbs < big := by omega
  have bz : (0 : Int).natAbs < big := fits_small (by decide)
  have c3 : Value.int .i64 (cmpI (n1 / d1) (n2 / d2)) = .int .i64 (cmpX (nz (n1 / d1)) (nz (n2 / d2))) := by rw [cmpX_nz bq bq2]
  have c4 : Value.int .i64 (cmpI (n1 % d1) 0) = .int .i64 (cmpX (nz (n1 % d1)) (nz 0)) := by rw [cmpX_nz br bz]
  have c5 : Value.int .i64 (cmpI (n2 % d2) 0) = .int .i64 (cmpX (nz (n2 % d2)) (nz 0)) := by rw [cmpX_nz br2 bz]
  have c6 : Value.int .i64 (cmpI (n1 % d1) (n2 % d2)) = .int .i64 (cmpX (nz (n1 % d1)) (nz (n2 % d2))) := by rw [cmpX_nz br br2]
  have c7 : Value.int .i64 (-s) = .int .i64 (IntKind.i64.wrap (0 - s)) := by rw [wrap_one hs]
  unfold cf at hcf
  by_cases hc : cmpI (n1 / d1) (n2 / d2) ≠ 0
  · rw [if_pos hc] at hcf
    subst hcf
    have h0 : (cmpI (n1 / d1) (n2 / d2) != 0) = true := by simpa using hc
    exact .inl (goes (Fb := FN [nz n1, nz d1, nz n2, nz d2, nz (n1 / d1), nz (n1 % d1), nz (n2 / d2), nz (n2 % d2), nz 0] [.int .i64 s, .bool true, .bool true, .int .i64 (cmpI (n1 / d1) (n2 / d2)), .int .i64 (cmpI (n1 % d1) 0), .int .i64 (cmpI (n2 % d2) 0), .int .i64 (cmpI (n1 % d1) (n2 % d2)), .int .i64 (-s)]) (stb := cmpInv) (tl := [.sl 5 (LF (.h 103)), .sl 6 (LF (.h 100))]) (C := [(26, .call ⟨64, [NM 0, NM 1], [], .t [.g (nm 4), .g (nm 5), .c (.h 101)], []⟩),
      (35, .call ⟨64, [NM 2, NM 3], [], .t [.g (nm 6), .g (nm 7), .c (.h 102)], []⟩),
      (41, .call ⟨33, [NM 4, NM 6], [], LF (.h 103), []⟩),
      (44, .bin .neq 3 (LF (.h 103)) (LF (.k (.int .i64 0))) (LF (.k (.bool true))))]) (H := .no) 10 (zipA.imp ⟨z_p, z_p, z_bxR rfl rfl, z_bxR rfl rfl, z_L (gives_e (k := 0) rfl) (gives_e (k := 0) rfl), trivial⟩) (fine_FN rfl) ⟨c_div eq er (gives_e (k := 1) eo), c_div vq vr (gives_e (k := 2) vo), c_cmp (gives_e (k := 3) c3), c_bin (gives_e (k := 3) rfl) gives_k (congrArg some h0) gives_k, trivial⟩ mixed hnt trivial (fun _ _ _ hs => by cases hs) (by kernel_rfl : runsTo (KN w0) Tryz.prog _ .no ⟨ntOf Tryz.prog 22, [], []⟩ (lp Tryz.prog 22 0) 10 cmpInv (.x 0) [.sl 5 (LF (.h 103)), .sl 6 (LF (.h 100))] = true) rfl (zipA.imp ⟨z_L (gives_e (k := 3) rfl) he.1, z_L (gives_e (k := 0) rfl) he.2, trivial⟩))
  · rw [if_neg hc] at hcf
    have h0 : (cmpI (n1 / d1) (n2 / d2) != 0) = false := by simpa using hc
    by_cases hz : n1 % d1 = 0 ∨ n2 % d2 = 0
    · rw [if_pos hz] at hcf
      subst hcf
      by_cases hr : n1 % d1 = 0
      · have h1 : (cmpI (n1 % d1) 0 == 0) = true := by rw [hr]; rfl
        exact .inl (goes (Fb := FN [nz n1, nz d1, nz n2, nz d2, nz (n1 / d1), nz (n1 % d1), nz (n2 / d2), nz (n2 % d2), nz 0] [.int .i64 s, .bool true, .bool true, .int .i64 (cmpI (n1 / d1) (n2 / d2)), .int .i64 (cmpI (n1 % d1) 0), .int .i64 (cmpI (n2 % d2) 0), .int .i64 (cmpI (n1 % d1) (n2 % d2)), .int .i64 (-s)]) (stb := cmpInv) (tl := [.sl 5 (LF (.h 106)), .sl 6 (LF (.h 100))]) (C := [(26, .call ⟨64, [NM 0, NM 1], [], .t [.g (nm 4), .g (nm 5), .c (.h 101)], []⟩),
      (35, .call ⟨64, [NM 2, NM 3], [], .t [.g (nm 6), .g (nm 7), .c (.h 102)], []⟩),
      (41, .call ⟨33, [NM 4, NM 6], [], LF (.h 103), []⟩),
      (44, .bin .neq 3 (LF (.h 103)) (LF (.k (.int .i64 0))) (LF (.k (.bool false)))),
      (47, .call ⟨65, [], [], NM 8, []⟩),
      (48, .call ⟨33, [NM 5, NM 8], [], LF (.h 104), []⟩),
      (49, .bin .eql 3 (LF (.h 104)) (LF (.k (.int .i64 0))) (LF (.k (.bool true)))),
      (58, .call ⟨33, [NM 5, NM 7], [], LF (.h 106), []⟩)]) (H := .no) 10 (zipA.imp ⟨z_p, z_p, z_bxR rfl rfl, z_bxR rfl rfl, z_L (gives_e (k := 0) rfl) (gives_e (k := 0) rfl), trivial⟩) (fine_FN rfl) ⟨c_div eq er (gives_e (k := 1) eo), c_div vq vr (gives_e (k := 2) vo), c_cmp (gives_e (k := 3) c3), c_bin (gives_e (k := 3) rfl) gives_k (congrArg some h0) gives_k, c_zero rfl, c_cmp (gives_e (k := 4) c4), c_bin (gives_e (k := 4) rfl) gives_k (congrArg some h1) gives_k, c_cmp (gives_e (k := 6) c6), trivial⟩ mixed hnt trivial (fun _ _ _ hs => by cases hs) (by kernel_rfl : runsTo (KN w0) Tryz.prog _ .no ⟨ntOf Tryz.prog 22, [], []⟩ (lp Tryz.prog 22 0) 10 cmpInv (.x 0) [.sl 5 (LF (.h 106)), .sl 6 (LF (.h 100))] = true) rfl (zipA.imp ⟨z_L (gives_e (k := 6) rfl) he.1, z_L (gives_e (k := 0) rfl) he.2, trivial⟩))
      · have h1 : (cmpI (n1 % d1) 0 == 0) = false := by rw [beq_eq_false_iff_ne]; exact fun e => hr (cmpI_z.1 e)
        have h2 : (cmpI (n2 % d2) 0 == 0) = true := by rw [hz.resolve_left hr]; rfl
        exact .inl (goes (Fb := FN [nz n1, nz d1, nz n2, nz d2, nz (n1 / d1), nz (n1 % d1), nz (n2 / d2), nz (n2 % d2), nz 0] [.int .i64 s, .bool true, .bool true, .int .i64 (cmpI (n1 / d1) (n2 / d2)), .int .i64 (cmpI (n1 % d1) 0), .int .i64 (cmpI (n2 % d2) 0), .int .i64 (cmpI (n1 % d1) (n2 % d2)), .int .i64 (-s)]) (stb := cmpInv) (tl := [.sl 5 (LF (.h 106)), .sl 6 (LF (.h 100))]) (C := [(26, .call ⟨64, [NM 0, NM 1], [], .t [.g (nm 4), .g (nm 5), .c (.h 101)], []⟩),
      (35, .call ⟨64, [NM 2, NM 3], [], .t [.g (nm 6), .g (nm 7), .c (.h 102)], []⟩),
      (41, .call ⟨33, [NM 4, NM 6], [], LF (.h 103), []⟩),
      (44, .bin .neq 3 (LF (.h 103)) (LF (.k (.int .i64 0))) (LF (.k (.bool false)))),
      (47, .call ⟨65, [], [], NM 8, []⟩),
      (48, .call ⟨33, [NM 5, NM 8], [], LF (.h 104), []⟩),
      (49, .bin .eql 3 (LF (.h 104)) (LF (.k (.int .i64 0))) (LF (.k (.bool false)))),
      (52, .call ⟨65, [], [], NM 8, []⟩),
      (53, .call ⟨33, [NM 7, NM 8], [], LF (.h 105), []⟩),
      (54, .bin .eql 3 (LF (.h 105)) (LF (.k (.int .i64 0))) (LF (.k (.bool true)))),
      (58, .call ⟨33, [NM 5, NM 7], [], LF (.h 106), []⟩)]) (H := .no) 10 (zipA.imp ⟨z_p, z_p, z_bxR rfl rfl, z_bxR rfl rfl, z_L (gives_e (k := 0) rfl) (gives_e (k := 0) rfl), trivial⟩) (fine_FN rfl) ⟨c_div eq er (gives_e (k := 1) eo), c_div vq vr (gives_e (k := 2) vo), c_cmp (gives_e (k := 3) c3), c_bin (gives_e (k := 3) rfl) gives_k (congrArg some h0) gives_k, c_zero rfl, c_cmp (gives_e (k := 4) c4), c_bin (gives_e (k := 4) rfl) gives_k (congrArg some h1) gives_k, c_zero rfl, c_cmp (gives_e (k := 5) c5), c_bin (gives_e (k := 5) rfl) gives_k (congrArg some h2) gives_k, c_cmp (gives_e (k := 6) c6), trivial⟩ mixed hnt trivial (fun _ _ _ hs => by cases hs) (by kernel_rfl : runsTo (KN w0) Tryz.prog _ .no ⟨ntOf Tryz.prog 22, [], []⟩ (lp Tryz.prog 22 0) 10 cmpInv (.x 0) [.sl 5 (LF (.h 106)), .sl 6 (LF (.h 100))] = true) rfl (zipA.imp ⟨z_L (gives_e (k := 6) rfl) he.1, z_L (gives_e (k := 0) rfl) he.2, trivial⟩))
    · rw [if_neg hz] at hcf
      have h1' : n1 % d1 ≠ 0 := fun e => hz (.inl e)
      have h2' : n2 % d2 ≠ 0 := fun e => hz (.inr e)
      have h3 : (cmpI (n1 % d1) 0 == 0) = false := by rw [beq_eq_false_iff_ne]; exact fun e => h1' (cmpI_z.1 e)
      have h4 : (cmpI (n2 % d2) 0 == 0) = false := by rw [beq_eq_false_iff_ne]; exact fun e => h2' (cmpI_z.1 e)
      refine .inr ⟨⟨d1, n1 % d1, d2, n2 % d2, -s, k'⟩, by simp, ⟨by simp only; omega, by simp only; omega, b2, br, b4, br2, by simp only; omega, by simp only; omega, hcf⟩, ?_⟩
      have h1 := h3
      have h2 := h4
      exact goes (Fb := FN [nz n1, nz d1, nz n2, nz d2, nz (n1 / d1), nz (n1 % d1), nz (n2 / d2), nz (n2 % d2), nz 0] [.int .i64 s, .bool true, .bool true, .int .i64 (cmpI (n1 / d1) (n2 / d2)), .int .i64 (cmpI (n1 % d1) 0), .int .i64 (cmpI (n2 % d2) 0), .int .i64 (cmpI (n1 % d1) (n2 % d2)), .int .i64 (-s)]) (stb := cmpInv) (tl := [.sl 2 (LF (.p 0 0)), .sl 3 (LF (.p 1 0)), .bx 0 28 (nm 1 ++ nm 5), .bx 1 28 (nm 3 ++ nm 7), .sl 6 (LF (.h 107))]) (C := [(26, .call ⟨64, [NM 0, NM 1], [], .t [.g (nm 4), .g (nm 5), .c (.h 101)], []⟩),
      (35, .call ⟨64, [NM 2, NM 3], [], .t [.g (nm 6), .g (nm 7), .c (.h 102)], []⟩),
      (41, .call ⟨33, [NM 4, NM 6], [], LF (.h 103), []⟩),
      (44, .bin .neq 3 (LF (.h 103)) (LF (.k (.int .i64 0))) (LF (.k (.bool false)))),
      (47, .call ⟨65, [], [], NM 8, []⟩),
      (48, .call ⟨33, [NM 5, NM 8], [], LF (.h 104), []⟩),
      (49, .bin .eql 3 (LF (.h 104)) (LF (.k (.int .i64 0))) (LF (.k (.bool false)))),
      (52, .call ⟨65, [], [], NM 8, []⟩),
      (53, .call ⟨33, [NM 7, NM 8], [], LF (.h 105), []⟩),
      (54, .bin .eql 3 (LF (.h 105)) (LF (.k (.int .i64 0))) (LF (.k (.bool false)))),
      (68, .un .neg (LF (.h 100)) (LF (.h 107)))]) (H := .no) 10 (zipA.imp ⟨z_p, z_p, z_bxR rfl rfl, z_bxR rfl rfl, z_L (gives_e (k := 0) rfl) (gives_e (k := 0) rfl), trivial⟩) (fine_FN rfl) ⟨c_div eq er (gives_e (k := 1) eo), c_div vq vr (gives_e (k := 2) vo), c_cmp (gives_e (k := 3) c3), c_bin (gives_e (k := 3) rfl) gives_k (congrArg some h0) gives_k, c_zero rfl, c_cmp (gives_e (k := 4) c4), c_bin (gives_e (k := 4) rfl) gives_k (congrArg some h1) gives_k, c_zero rfl, c_cmp (gives_e (k := 5) c5), c_bin (gives_e (k := 5) rfl) gives_k (congrArg some h2) gives_k, c_un (gives_e (k := 0) rfl) (gives_e (k := 7) c7), trivial⟩ mixed hnt trivial (fun _ _ _ hs => by cases hs) (by kernel_rfl : runsTo (KN w0) Tryz.prog _ .no ⟨ntOf Tryz.prog 22, [], []⟩ (lp Tryz.prog 22 0) 10 cmpInv .n [.sl 2 (LF (.p 0 0)), .sl 3 (LF (.p 1 0)), .bx 0 28 (nm 1 ++ nm 5), .bx 1 28 (nm 3 ++ nm 7), .sl 6 (LF (.h 107))] = true) rfl (zipA.imp ⟨z_p, z_p, z_bxR rfl rfl, z_bxR rfl rfl, z_L (gives_e (k := 7) rfl) (gives_e (k := 0) rfl), trivial⟩)
set_option maxRecDepth 100000 in
theorem cmp_c {w0 : World} (n1 d1 n2 d2 : Int) (h : rrX (nz n1) (nz d1) = true) (h1 : rrX (nz n2) (nz d2) = true) (k : Nat) (o : Int × Int) (z : Int) (hJ : CT.J o ⟨n1, d1, n2, d2, 1, k⟩) (hz : z = IntKind.i64.wrap (o.2 * o.1)) : Con.sound (KN w0) Tryz.prog (FN [nz n1, nz d1, nz n2, nz d2] [.bool (rrX (nz n1) (nz d1)), .bool (rrX (nz n2) (nz d2)), .int .i64 o.1, .int .i64 o.2, .int .i64 z]) ⟨22, [RA 0 1, RA 2 3], [], LF (.h 104), []⟩ := by
  refine con_okL (C := [(14, .call ⟨43, [RA 0 1], [], LF (.h 100), []⟩), (18, .call ⟨43, [RA 2 3], [], LF (.h 101), []⟩), (10100, .fb 100 true), (10101, .fb 101 true), (71, .bin .mul 3 (LF (.h 103)) (LF (.h 102)) (LF (.h 104)))]) ⟨[cmpS_], [], 0⟩ [] 0 (fine_FN rfl) ⟨c_rright (gives_e (k := 0) rfl), c_rright (gives_e (k := 1) rfl), c_fb (gives_e (k := 0) (congrArg Value.bool h)), c_fb (gives_e (k := 1) (congrArg Value.bool h1)), c_arith (gives_e (k := 3) rfl) (gives_e (k := 2) rfl) (.inl ⟨rfl, hz⟩) (gives_e (k := 4) rfl), trivial⟩ mixed trivial ?_ (by kernel_rfl)
  intro R hnt p hp s hs
  have hl : loopsIn (codeOf Tryz.prog 22) = [(4, lp Tryz.prog 22 0)] := by kernel_rfl
  rw [hl, List.mem_singleton] at hp
  subst hp
  have : s = cmpS_ := (Option.some.inj hs).symm
  subst this
  exact cmp_loop _ _ n1 d1 n2 d2 k o ⟨rfl, rfl, rfl, rfl⟩ ⟨(gives_e (k := 2) rfl), (gives_e (k := 3) rfl)⟩ hJ R hnt
def cmpO (p r : Option Rat) : Int := match p, r with
  | some p, some r => cmpQ p r
  | _, _ => 0
theorem c_rcmp {xs : List Raw} {es : List Value} {w0 : World} {i j i2 j2 : Nat} {o : Lf} (ho : Gives (FN xs es) o (.int .i64 (cmpO (qX (X xs i) (X xs j)) (qX (X xs i2) (X xs j2))))) (hi : i < 50 := by first | assumption | decide) (hj : j < 50 := by first | assumption | decide) (hi2 : i2 < 50 := by first | assumption | decide) (hj2 : j2 < 50 := by first | assumption | decide) : Con.sound (KN w0) Tryz.prog (FN xs es) ⟨22, [RA i j, RA i2 j2], [], LF o, []⟩ := by
  refine dgR2 (fun d1 d2 d3 d4 => ?_) hi hj hi2 hj2
  cases h3 : rrX (X xs i) (X xs j) with
  | false =>
    rw [qX_none h3] at ho
    exact tr (cmp_a _ _ _ _ h3) (sh2 (RA_mv rfl rfl hi hj) (RA_mv rfl rfl hi2 hj2)) (LF_bk ho gives_k)
  | true =>
    obtain ⟨p, ep, ea, eb, hp, hp2⟩ := qX_some h3 d1 d2
    cases h4 : rrX (X xs i2) (X xs j2) with
    | false =>
      rw [qX_none h4, ep] at ho
      exact tr (cmp_b _ _ _ _ h3 h4) (sh2 (RA_mv rfl rfl hi hj) (RA_mv rfl rfl hi2 hj2)) (LF_bk ho gives_k)
    | true =>
      obtain ⟨r, er, ec, ed, hr, hr2⟩ := qX_some h4 d3 d4
      rw [ep, er] at ho
      have hp2' : ((p.den : Nat) : Int).natAbs < big := by simpa using hp2
      have hr2' : ((r.den : Nat) : Int).natAbs < big := by simpa using hr2
      have n1 := p.den_nz
      have n2 := r.den_nz
      have hJ : CT.J (cf (p.den + 1) p.num p.den r.num r.den 1) ⟨p.num, p.den, r.num, r.den, 1, p.den + 1⟩ := ⟨by simp only; omega, by simp only; omega, hp, hp2', hr, hr2', .inl rfl, by simp, rfl⟩
      have hv := cf_val (p.den + 1) (n1 := p.num) (d1 := p.den) (n2 := r.num) (d2 := r.den) (s := 1) (by omega) (by omega) (by simp)
      have hw : cmpQ p r = IntKind.i64.wrap ((cf (p.den + 1) p.num p.den r.num r.den 1).2 * (cf (p.den + 1) p.num p.den r.num r.den 1).1) := by
        rw [hv, Int.one_mul, ← cmpQ_eq]
        unfold cmpQ
        split
        · decide
        · split <;> decide
      rw [ea, eb] at h3
      rw [ec, ed] at h4
      refine tr (cmp_c p.num p.den r.num r.den h3 h4 (p.den + 1) _ (cmpQ p r) hJ hw) (sh2 (RA_mv ea.symm eb.symm hi hj) (RA_mv ec.symm ed.symm hi2 hj2)) (LF_bk ho (gives_e (k := 4) rfl))
end Go.Proofs.YtccjiodohphgnaaGreatDoor

namespace Go.Proofs.YtccjiodohphgnaaGreatDoor
open Go.RowKit Go.Shelf

/-- A slice of digits. -/
def pD (l : List Nat) : Pred := fun v W _ => ∃ A m c, v = .slice A m c ∧ Sl W W.heap.size A m c l
abbrev cN (x : Raw) : List Pred := [pB x.1, pD x.2]
abbrev gN (x : Raw) : PSh := .o (.g [pB x.1, pD x.2])
/-- A fraction's fields. -/
abbrev RR := Raw × Raw
abbrev gR (x : RR) : PSh := .o (.g [pB x.1.1, pD x.1.2, pB x.2.1, pD x.2.2])
def rq (o : Option Rat) : RR := (nz (nO o), nz ((dO o : Nat) : Int))
def qq (x : RR) : Option Rat := qX x.1 x.2
theorem fine_D {w0 : World} {l : List Nat} : FineC (KN w0) (pD l) := by
  constructor
  · rintro v W W' D D' S hS hO _ ⟨A, m, c, e, hs⟩
    exact ⟨A, m, c, e, (Sl.oth hS hO hs).more hO.size⟩
  · rintro v W D ⟨A, m, c, e, _⟩
    rw [e]; rfl
/-- A nil slice has no digits. -/
theorem nil_D {v : Value} {W : World} {D : Dat} (h : pV (.slice none 0 0) v W D) : pD [] v W D := ⟨none, 0, 0, h, Sl.none_⟩
theorem zero_R {v : Value} {W : World} {D : Dat} (h : (PSh.o (.g [pV (.bool false), pV (.slice none 0 0), pV (.bool false), pV (.slice none 0 0)])).ok v W D) : (gR (rq none)).ok v W D := by
  obtain ⟨vs, e, h1⟩ := h
  refine ⟨vs, e, ?_⟩
  have e0 : rq none = ((false, []), (false, [])) := by show (nz 0, nz 0) = _; rw [nz_zero]
  rw [e0]
  match vs.toList, h1 with
  | [a, b, c, d], ⟨h1, h2, h3, h4, _⟩ => exact ⟨h1, nil_D h2, h3, nil_D h4, trivial⟩
  | [], h => exact h.elim
  | [_], h => exact h.2.elim
  | [_, _], h => exact h.2.2.elim
  | [_, _, _], h => exact h.2.2.2.elim
  | _ :: _ :: _ :: _ :: _ :: _, h => exact h.2.2.2.2.elim
theorem f_refadd {w0 : World} (x y r : Raw) (o : Bool) (hr : nz (vO (addX x y)) = r) (ho : okO (addX x y) = o) : Fun (KN w0) Tryz.prog 60 [gN x, gN y] (.t [.g (cN r), .c (pB o)]) :=
  con_fun (c_refadd (xs := [x, y, r]) (es := [.bool o]) (i := 0) (j := 1) (k := 2) (o := .h 100) hr.symm (gives_e (k := 0) (congrArg Value.bool ho.symm))) (by kernel_rfl) (by kernel_rfl) rfl rfl
theorem f_refmul {w0 : World} (x y r : Raw) (o : Bool) (hr : nz (vO (mulX x y)) = r) (ho : okO (mulX x y) = o) : Fun (KN w0) Tryz.prog 59 [gN x, gN y] (.t [.g (cN r), .c (pB o)]) :=
  con_fun (c_refmul (xs := [x, y, r]) (es := [.bool o]) (i := 0) (j := 1) (k := 2) (o := .h 100) hr.symm (gives_e (k := 0) (congrArg Value.bool ho.symm))) (by kernel_rfl) (by kernel_rfl) rfl rfl
theorem f_cmp {w0 : World} (x y : Raw) (o : Int) (ho : cmpX x y = o) : Fun (KN w0) Tryz.prog 33 [gN x, gN y] (.o (.c (pI o))) :=
  con_fun (c_cmp (xs := [x, y]) (es := [.int .i64 o]) (i := 0) (j := 1) (o := .h 100) (gives_e (k := 0) (congrArg (Value.int .i64) ho.symm))) (by kernel_rfl) (by kernel_rfl) rfl rfl
theorem f_refcmp {w0 : World} (x y : Raw) (o : Int) (ho : cmpX x y = o) : Fun (KN w0) Tryz.prog 54 [gN x, gN y] (.o (.c (pI o))) :=
  con_fun (c_refcmp (xs := [x, y]) (es := [.int .i64 o]) (i := 0) (j := 1) (o := .h 100) (gives_e (k := 0) (congrArg (Value.int .i64) ho.symm))) (by kernel_rfl) (by kernel_rfl) rfl rfl
theorem f_of {w0 : World} (x : Int) (r : Raw) (hr : nz x = r) (h0 : -9223372036854775808 ≤ x) (h1 : x < 9223372036854775808) : Fun (KN w0) Tryz.prog 34 [.o (.c (pI x))] (gN r) :=
  con_fun (c_of (xs := [r]) (es := [.int .i64 x]) (k := 0) (a := .h 100) (gives_e (k := 0) rfl) h0 h1 hr.symm) (by kernel_rfl) (by kernel_rfl) rfl rfl
theorem f_refof {w0 : World} (x : Int) (r : Raw) (hr : nz x = r) (h0 : -9223372036854775808 ≤ x) (h1 : x < 9223372036854775808) : Fun (KN w0) Tryz.prog 36 [.o (.c (pI x))] (gN r) :=
  con_fun (c_refof (xs := [r]) (es := [.int .i64 x]) (k := 0) (a := .h 100) (gives_e (k := 0) rfl) h0 h1 hr.symm) (by kernel_rfl) (by kernel_rfl) rfl rfl
theorem f_whole {w0 : World} (x : Int) (r : Raw) (hr : nz x = r) (h0 : -9223372036854775808 ≤ x) (h1 : x < 9223372036854775808) : Fun (KN w0) Tryz.prog 55 [.o (.c (pI x))] (gN r) :=
  con_fun (c_whole (xs := [r]) (es := [.int .i64 x]) (k := 0) (a := .h 100) (gives_e (k := 0) rfl) h0 h1 hr.symm) (by kernel_rfl) (by kernel_rfl) rfl rfl
theorem f_one {w0 : World} (r : Raw) (hr : nz 1 = r) : Fun (KN w0) Tryz.prog 67 [] (gN r) :=
  con_fun (c_one (xs := [r]) (es := []) (k := 0) hr.symm) (by kernel_rfl) (by kernel_rfl) rfl rfl
theorem f_rright {w0 : World} (x : RR) (o : Bool) (ho : rrX x.1 x.2 = o) : Fun (KN w0) Tryz.prog 43 [gR x] (.o (.c (pB o))) :=
  con_fun (c_rright (xs := [x.1, x.2]) (es := [.bool o]) (i := 0) (j := 1) (o := .h 100) (gives_e (k := 0) (congrArg Value.bool ho.symm))) (by kernel_rfl) (by kernel_rfl) rfl rfl
theorem f_refrright {w0 : World} (x : RR) (o : Bool) (ho : rrX x.1 x.2 = o) : Fun (KN w0) Tryz.prog 44 [gR x] (.o (.c (pB o))) :=
  con_fun (c_refrright (xs := [x.1, x.2]) (es := [.bool o]) (i := 0) (j := 1) (o := .h 100) (gives_e (k := 0) (congrArg Value.bool ho.symm))) (by kernel_rfl) (by kernel_rfl) rfl rfl
theorem f_rof {w0 : World} (x y : Raw) (r : RR) (o : Bool) (hr : rq (ofX x y) = r) (ho : (ofX x y).isSome = o) : Fun (KN w0) Tryz.prog 46 [gN x, gN y] (.t [.g (cN r.1 ++ cN r.2), .c (pB o)]) :=
  con_fun (c_of2 (xs := [x, y, r.1, r.2]) (es := [.bool o]) (i := 0) (j := 1) (k := 2) (k2 := 3) (o := .h 100) (congrArg Prod.fst hr.symm) (congrArg Prod.snd hr.symm) (gives_e (k := 0) (congrArg Value.bool ho.symm))) (by kernel_rfl) (by kernel_rfl) rfl rfl
theorem f_refrof {w0 : World} (x y : Raw) (r : RR) (o : Bool) (hr : rq (ofX x y) = r) (ho : (ofX x y).isSome = o) : Fun (KN w0) Tryz.prog 47 [gN x, gN y] (.t [.g (cN r.1 ++ cN r.2), .c (pB o)]) :=
  con_fun (c_refof2 (xs := [x, y, r.1, r.2]) (es := [.bool o]) (i := 0) (j := 1) (k := 2) (k2 := 3) (o := .h 100) (congrArg Prod.fst hr.symm) (congrArg Prod.snd hr.symm) (gives_e (k := 0) (congrArg Value.bool ho.symm))) (by kernel_rfl) (by kernel_rfl) rfl rfl
theorem f_radd {w0 : World} (x y r : RR) (o : Bool) (hr : rq (addR (qq x) (qq y)) = r) (ho : (addR (qq x) (qq y)).isSome = o) : Fun (KN w0) Tryz.prog 13 [gR x, gR y] (.t [.g (cN r.1 ++ cN r.2), .c (pB o)]) :=
  con_fun (c_radd (xs := [x.1, x.2, y.1, y.2, r.1, r.2]) (es := [.bool o]) (i := 0) (j := 1) (i2 := 2) (j2 := 3) (k := 4) (k2 := 5) (o := .h 100) (congrArg Prod.fst hr.symm) (congrArg Prod.snd hr.symm) (gives_e (k := 0) (congrArg Value.bool ho.symm))) (by kernel_rfl) (by kernel_rfl) rfl rfl
theorem f_rsub {w0 : World} (x y r : RR) (o : Bool) (hr : rq (subR (qq x) (qq y)) = r) (ho : (subR (qq x) (qq y)).isSome = o) : Fun (KN w0) Tryz.prog 15 [gR x, gR y] (.t [.g (cN r.1 ++ cN r.2), .c (pB o)]) :=
  con_fun (c_rsub (xs := [x.1, x.2, y.1, y.2, r.1, r.2]) (es := [.bool o]) (i := 0) (j := 1) (i2 := 2) (j2 := 3) (k := 4) (k2 := 5) (o := .h 100) (congrArg Prod.fst hr.symm) (congrArg Prod.snd hr.symm) (gives_e (k := 0) (congrArg Value.bool ho.symm))) (by kernel_rfl) (by kernel_rfl) rfl rfl
theorem f_rmul {w0 : World} (x y r : RR) (o : Bool) (hr : rq (mulR (qq x) (qq y)) = r) (ho : (mulR (qq x) (qq y)).isSome = o) : Fun (KN w0) Tryz.prog 18 [gR x, gR y] (.t [.g (cN r.1 ++ cN r.2), .c (pB o)]) :=
  con_fun (c_rmul (xs := [x.1, x.2, y.1, y.2, r.1, r.2]) (es := [.bool o]) (i := 0) (j := 1) (i2 := 2) (j2 := 3) (k := 4) (k2 := 5) (o := .h 100) (congrArg Prod.fst hr.symm) (congrArg Prod.snd hr.symm) (gives_e (k := 0) (congrArg Value.bool ho.symm))) (by kernel_rfl) (by kernel_rfl) rfl rfl
theorem f_rdiv {w0 : World} (x y r : RR) (o : Bool) (hr : rq (divR (qq x) (qq y)) = r) (ho : (divR (qq x) (qq y)).isSome = o) : Fun (KN w0) Tryz.prog 20 [gR x, gR y] (.t [.g (cN r.1 ++ cN r.2), .c (pB o)]) :=
  con_fun (c_rdiv (xs := [x.1, x.2, y.1, y.2, r.1, r.2]) (es := [.bool o]) (i := 0) (j := 1) (i2 := 2) (j2 := 3) (k := 4) (k2 := 5) (o := .h 100) (congrArg Prod.fst hr.symm) (congrArg Prod.snd hr.symm) (gives_e (k := 0) (congrArg Value.bool ho.symm))) (by kernel_rfl) (by kernel_rfl) rfl rfl
theorem f_rcmp {w0 : World} (x y : RR) (o : Int) (ho : cmpO (qq x) (qq y) = o) : Fun (KN w0) Tryz.prog 22 [gR x, gR y] (.o (.c (pI o))) :=
  con_fun (c_rcmp (xs := [x.1, x.2, y.1, y.2]) (es := [.int .i64 o]) (i := 0) (j := 1) (i2 := 2) (j2 := 3) (o := .h 100) (gives_e (k := 0) (congrArg (Value.int .i64) ho.symm))) (by kernel_rfl) (by kernel_rfl) rfl rfl
theorem f_rsign {w0 : World} (x : RR) (o : Int) (ho : sgX x.1 x.2 = o) : Fun (KN w0) Tryz.prog 26 [gR x] (.o (.c (pI o))) :=
  con_fun (c_rsign (xs := [x.1, x.2]) (es := [.int .i64 o]) (i := 0) (j := 1) (o := .h 100) (gives_e (k := 0) (congrArg (Value.int .i64) ho.symm))) (by kernel_rfl) (by kernel_rfl) rfl rfl
theorem f_refrsign {w0 : World} (x : RR) (o : Int) (ho : sgX x.1 x.2 = o) : Fun (KN w0) Tryz.prog 45 [gR x] (.o (.c (pI o))) :=
  con_fun (c_refsign (xs := [x.1, x.2]) (es := [.int .i64 o]) (i := 0) (j := 1) (o := .h 100) (gives_e (k := 0) (congrArg (Value.int .i64) ho.symm))) (by kernel_rfl) (by kernel_rfl) rfl rfl
theorem f_rfloor {w0 : World} (x : RR) (n : Int) (o : Bool) (hn : vO (flX x.1 x.2) = n) (ho : okO (flX x.1 x.2) = o) : Fun (KN w0) Tryz.prog 39 [gR x] (.t [.c (pI n), .c (pB o)]) :=
  con_fun (c_rfloor (xs := [x.1, x.2]) (es := [.int .i64 n, .bool o]) (i := 0) (j := 1) (o := .h 100) (o2 := .h 101) (gives_e (k := 0) (congrArg (Value.int .i64) hn.symm)) (gives_e (k := 1) (congrArg Value.bool ho.symm))) (by kernel_rfl) (by kernel_rfl) rfl rfl
theorem f_refrfloor {w0 : World} (x : RR) (n : Int) (o : Bool) (hn : vO (flX x.1 x.2) = n) (ho : okO (flX x.1 x.2) = o) : Fun (KN w0) Tryz.prog 40 [gR x] (.t [.c (pI n), .c (pB o)]) :=
  con_fun (c_reffloor (xs := [x.1, x.2]) (es := [.int .i64 n, .bool o]) (i := 0) (j := 1) (o := .h 100) (o2 := .h 101) (gives_e (k := 0) (congrArg (Value.int .i64) hn.symm)) (gives_e (k := 1) (congrArg Value.bool ho.symm))) (by kernel_rfl) (by kernel_rfl) rfl rfl
theorem f_rceil {w0 : World} (x : RR) (n : Int) (o : Bool) (hn : vO (ceX x.1 x.2) = n) (ho : okO (ceX x.1 x.2) = o) : Fun (KN w0) Tryz.prog 41 [gR x] (.t [.c (pI n), .c (pB o)]) :=
  con_fun (c_rceil (xs := [x.1, x.2]) (es := [.int .i64 n, .bool o]) (i := 0) (j := 1) (o := .h 100) (o2 := .h 101) (gives_e (k := 0) (congrArg (Value.int .i64) hn.symm)) (gives_e (k := 1) (congrArg Value.bool ho.symm))) (by kernel_rfl) (by kernel_rfl) rfl rfl
theorem f_refrceil {w0 : World} (x : RR) (n : Int) (o : Bool) (hn : vO (ceX x.1 x.2) = n) (ho : okO (ceX x.1 x.2) = o) : Fun (KN w0) Tryz.prog 42 [gR x] (.t [.c (pI n), .c (pB o)]) :=
  con_fun (c_refceil (xs := [x.1, x.2]) (es := [.int .i64 n, .bool o]) (i := 0) (j := 1) (o := .h 100) (o2 := .h 101) (gives_e (k := 0) (congrArg (Value.int .i64) hn.symm)) (gives_e (k := 1) (congrArg Value.bool ho.symm))) (by kernel_rfl) (by kernel_rfl) rfl rfl
theorem f_text {w0 : World} (hT : ∀ W, Below w0.heap.size w0 W → PowT w0.heap.size W) (x : Raw) (t : List UInt8) (ht : textS x.1 x.2 = t) : Fun (KN w0) Tryz.prog 68 [gN x] (.o (.c (pS t))) :=
  con_fun (c_text (xs := [x]) (es := [.string ⟨t.toArray⟩]) (i := 0) (o := .h 100) hT (gives_e (k := 0) (by rw [← ht]; rfl))) (by kernel_rfl) (by kernel_rfl) rfl rfl
theorem f_parse {w0 : World} (hT : ∀ W, Below w0.heap.size w0 W → PowT w0.heap.size W ∧ SynT w0.heap.size W) (s : List UInt8) (r : Raw) (o : Bool) (hr : nz (vO (parseS s)) = r) (ho : okO (parseS s) = o) : Fun (KN w0) Tryz.prog 70 [.o (.c (pS s))] (.t [.g (cN r), .c (pB o)]) :=
  con_fun (c_parse (xs := [r]) (es := [.string ⟨s.toArray⟩, .bool o]) (k := 0) (a := .h 100) (o := .h 101) hT (gives_e (k := 0) rfl) hr.symm (gives_e (k := 1) (congrArg Value.bool ho.symm))) (by kernel_rfl) (by kernel_rfl) rfl rfl
end Go.Proofs.YtccjiodohphgnaaGreatDoor
