/-
  A slice of digits that a call owns and appends to; the contract of the reference's signed.
-/
import Derived.Test.YthnickjbknpmhaaGreatDoorNumSlv
import Derived.Deep.AppendLies
namespace Go.Proofs.YthnickjbknpmhaaGreatDoor
open Go.RowKit Go.Shelf

/-- The value is a slice of the call's own that holds digits. -/
def OwnD (w : World) (base : Nat) (v : Value) (l : List Nat) : Prop := w.ownsRow base 40 1 v l.length (u32s l) ∧ Dig l
theorem OwnD.nil (w : World) (base : Nat) : OwnD w base (.slice none 0 0) [] := ⟨⟨rfl, .inl ⟨rfl, rfl⟩⟩, dig_nil⟩
theorem OwnD.sl {w : World} {base : Nat} {v : Value} {l : List Nat} (h : OwnD w base v l) : ∃ A c, v = .slice A l.length c ∧ Sl w w.heap.size A l.length c l ∧ (∀ ad, A = some ad → base ≤ ad.block) := by
  obtain ⟨⟨h1, h2⟩, hd⟩ := h
  rcases h2 with ⟨rfl, h0⟩ | ⟨g, cap, cur, rfl, hb, hg, hn, hc, hs, ht⟩
  · obtain rfl := List.eq_nil_of_length_eq_zero h0
    exact ⟨none, 0, rfl, Sl.none_, fun ad e => by cases e⟩
  · refine ⟨_, _, rfl, ⟨⟨⟨by simp [u32s_length], fun _ => ⟨_, rfl, lt_of_heap hg, fun j u hu => ?_⟩⟩, hd⟩, hn, hc⟩, fun ad e => by cases e; exact hb⟩
    have e : (⟨g, 0, none⟩ : Addr).add j = ⟨g, j, none⟩ := by unfold Addr.add; split <;> simp [*]
    rw [e, cell_of_heap hg, ← Array.getElem?_toList]
    rw [← ht, List.getElem?_take] at hu
    split at hu
    · exact hu
    · cases hu
theorem u32s_cell {l : List Nat} : ∀ u ∈ u32s l, u.oneCell' = true := by
  intro u hu
  obtain ⟨d, _, rfl⟩ := List.mem_map.1 hu
  rfl
theorem Sl.news {w : World} {B n c : Nat} {ad : Addr} {l : List Nat} (h : Sl w B (some ad) n c l) (hn : 0 < n) : ∀ j u, (u32s l)[j]? = some u → w.cell? (ad.add j) = some u := by
  obtain ⟨ad', e, _, hc⟩ := h.1.1.2 hn
  cases e
  exact hc
theorem OwnD.below {w w' : World} {base B : Nat} {v : Value} {l : List Nat} (h : OwnD w base v l) (hb : Below B w w') (hB : w.heap.size ≤ B) : OwnD w' base v l := by
  obtain ⟨⟨h1, h2⟩, hd⟩ := h
  refine ⟨⟨h1, ?_⟩, hd⟩
  rcases h2 with h2 | ⟨g, cap, cur, h3, h4, h5, h6⟩
  · exact .inl h2
  · exact .inr ⟨g, cap, cur, h3, h4, (hb.block g (Nat.lt_of_lt_of_le (lt_of_heap h5) hB)).trans h5, h6⟩

theorem s1_frz {w W : World} {neg : Bool} {A : Option Addr} {n c : Nat} (h : S1 w neg A n c W) : (∀ i, W.frozen? ⟨w.heap.size, i, none⟩ = false) ∧ w.heap.size < W.heap.size := by
  have h' : Below (w.heap.size + 1) (w.alloc (.cells #[.bool neg, .slice A n c] 26)) W := h
  refine ⟨fun i => ?_, by have := S1.size h; omega⟩
  rw [h'.frozen (p := ⟨w.heap.size, i, none⟩) (by simp)]; simp [go_sem]

set_option maxRecDepth 100000 in
set_option maxHeartbeats 1000000 in
theorem signed_any (A : Option Addr) (n c B v : Nat) (neg : Bool) (l : List Nat) (w : World) (h : Sl w B A n c l) (hB : B ≤ w.heap.size) (hv : nval l = v) :
    Calls Tryz.prog 23 #[.bool neg, .slice A n c] w (RetN (fitO (sgn neg v)) w) := by
  refine (show Calls Tryz.prog 23 #[.bool neg, .slice A n c] w (RetNum (sgn neg v) w) from ?_).mono fun _ _ hr => retN_of hr
  have hS := (h.below (w' := w.alloc (.cells #[.bool false, .slice none 0 0] 26)) ((Below.refl _ _).alloc hB _)).val hv
  have hS0 := Lib.hid ((h.below (w' := w.alloc (.cells #[.bool false, .slice none 0 0] 26)) ((Below.refl _ _).alloc hB _)))
  have hlen := hS.len
  obtain ⟨n', hn'⟩ : ∃ n', (trimL l).length = n' := ⟨_, rfl⟩
  have HV := Lib.hid hv
  have HN := Lib.hid hn'
  rw [hn'] at hS hlen
  clear h hn' hv
  rcases Nat.lt_or_ge 64 n' with h64 | h64
  · have hf : ¬ v < big := fun hlt => by have := (digs_fits v).2 hlt; omega
    have e1 : numv (sgn neg v) = 0 := by unfold numv; rw [sgn_abs, if_neg hf]
    have e2 : Hid (negv (sgn neg v) = false ∧ okv (sgn neg v) = false ∧ numv (sgn neg v) = 0) := ⟨by unfold negv; rw [e1]; rfl, by unfold okv; rw [sgn_abs]; exact decide_eq_false hf, e1⟩
    clear hS hlen e1 hf
    go_enter Tryz.func23, Tryz.ntmps23
    go_wp2_with (go_at_call 48; refine (reftrim_any _ _ _ _ _ _ hS0.out.1 hS0.out.2.1 hS0.out.2.2).mono ?_; rw [HN.out]; rintro e w' ⟨rfl, rfl⟩)
    exact bodyPost_ret (v := .tuple #[.agg #[.bool false, .slice none 0 0], .bool false]) (by simp [results, Tryz.f23, go_sem]) rfl ⟨_, _, _, tuple_ret e2.out.1.symm e2.out.2.1.symm, by rw [e2.out.2.2]; exact ⟨by rw [show digs (Int.natAbs 0) = [] from digs_zero]; exact RD.none_, Nat.le_refl _, by omega⟩, by go_grown⟩
  · have hf : v < big := (digs_fits v).1 (by omega)
    have e1 : numv (sgn neg v) = sgn neg v := by unfold numv; rw [sgn_abs, if_pos hf]
    have e3 : okv (sgn neg v) = true := by unfold okv; rw [sgn_abs]; exact decide_eq_true hf
    have e4 : negv (sgn neg v) = (neg && decide (v ≠ 0)) := by unfold negv; rw [e1]; exact sgn_neg neg v
    rcases Nat.eq_zero_or_pos n' with h0 | h0
    · have hv0 : v = 0 := digs_nil.1 (List.eq_nil_of_length_eq_zero (by omega))
      subst h0
      have e2 : Hid (negv (sgn neg v) = false ∧ okv (sgn neg v) = true ∧ (numv (sgn neg v)).natAbs = 0) := ⟨by rw [e4, hv0]; simp, e3, by rw [e1, sgn_abs, hv0]⟩
      clear hS hlen e1 hf e3 e4 hv0 h64
      go_enter Tryz.func23, Tryz.ntmps23
      go_wp2_with (go_at_call 48; refine (reftrim_any _ _ _ _ _ _ hS0.out.1 hS0.out.2.1 hS0.out.2.2).mono ?_; rw [HN.out]; rintro e w' ⟨rfl, rfl⟩)
      exact bodyPost_ret (v := .tuple #[.agg #[.bool false, .slice none 0 0], .bool true]) (by simp [results, Tryz.f23, go_sem]) rfl ⟨_, _, _, tuple_ret e2.out.1.symm e2.out.2.1.symm, by rw [e2.out.2.2]; exact ⟨by rw [digs_zero]; exact RD.none_, Nat.le_refl _, by omega⟩, by go_grown⟩
    · have hv0 : v ≠ 0 := fun e => by rw [e, digs_zero] at hlen; simp at hlen; omega
      have e2 : Hid (negv (sgn neg v) = neg ∧ okv (sgn neg v) = true ∧ (numv (sgn neg v)).natAbs = v) := ⟨by rw [e4]; simp [hv0], e3, by rw [e1, sgn_abs]⟩
      clear e1 hf e3 e4 hv0
      obtain ⟨ad, rfl, _⟩ := hS.at_ (k := 0) h0
      obtain ⟨i0, hi, hz0, hz1, hz2⟩ := info_parts Tryz.infoU32
      have b0 : Below B ((w.alloc (.cells #[.bool false, .slice none 0 0] 26))) ((w.alloc (.cells #[.bool false, .slice none 0 0] 26)).alloc (.cells #[] 40)) := (Below.refl _ _).alloc (by simp; omega) _
      have hown : ((w.alloc (.cells #[.bool false, .slice none 0 0] 26)).alloc (.cells #[] 40)).ownsRow (w.heap.size + 1) 40 1 (.slice (some ⟨w.heap.size + 1, 0, none⟩) 0 0) 0 [] := ⟨rfl, .inr ⟨w.heap.size + 1, 0, #[], rfl, Nat.le_refl _, heap_alloc_at _ _ _ (by simp), Nat.le_refl _, by decide, rfl, rfl⟩⟩
      have hnews := (hS.below b0).news h0
      have hnl : (u32s (digs v)).length = n' * 1 := by rw [u32s_length, hlen, Nat.mul_one]
      have hmx : 0 + n' ≤ maxLen := by unfold maxLen; omega
      have hby2 : (0 + n') * 4 ≤ 140737488355328 := by omega
      have hbs : w.heap.size + 1 ≤ ((w.alloc (.cells #[.bool false, .slice none 0 0] 26)).alloc (.cells #[] 40)).heap.size := by simp
      go_enter Tryz.func23, Tryz.ntmps23
      go_wp2_with (first
        | (go_at_call 48; refine (reftrim_any _ _ _ _ _ _ hS0.out.1 hS0.out.2.1 hS0.out.2.2).mono ?_; rw [HN.out]; rintro e w' ⟨rfl, rfl⟩)
        | (at_builtin; refine wpList_append_lies _ rfl _ _ 24 rfl (w.heap.size + 1) 40 i0 (.int .u32 0) 1 4 Tryz.underlying24 hi hz0 hz1 hz2 rfl (by decide) _ _ _ rfl hown ad n' c (u32s (digs v)) rfl hnl hnews u32s_cell h0 hmx hby2 hbs _ rfl ?_; intro g cap w1 hown' hgrow _ hlt; have s1 : S1 w false none 0 0 w1 := below_of_grown ((Below.refl _ _).alloc (by simp) _) hgrow hbs (Nat.le_refl _); obtain ⟨r0, r1⟩ := s1.facts; obtain ⟨rf, rz⟩ := s1_frz s1; have hO : OwnD w1 (w.heap.size + 1) (.slice (some ⟨g, 0, none⟩) n' cap) (digs v) := ⟨by rw [hlen]; rw [Nat.zero_add] at hown'; exact hown', (digs_canon v).1⟩; have HO := Lib.hid hO; clear hO hown' hgrow)
        | fail "no arm")
      obtain ⟨A2, c2, e, hsl, _⟩ := HO.out.sl
      rw [hlen] at e hsl
      cases e
      obtain ⟨q0, q1⟩ := two_set (.bool neg) (.slice (some ⟨g, 0, none⟩) n' cap) r0 r1
      refine bodyPost_ret (v := .tuple #[.agg #[.bool neg, .slice (some ⟨g, 0, none⟩) n' cap], .bool true]) ?_ rfl ⟨_, _, _, tuple_ret e2.out.1.symm e2.out.2.1.symm, by rw [e2.out.2.2]; exact hsl.stored r0 r1 _ _, (s1.below.setCell (by simp) _).setCell (by simp) _⟩
      simp [results, Tryz.f23, go_sem, q0, q1]
end Go.Proofs.YthnickjbknpmhaaGreatDoor
