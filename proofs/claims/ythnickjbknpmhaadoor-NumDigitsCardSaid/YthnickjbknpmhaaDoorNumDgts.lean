/-
  The walk of NumDigits: it returns true.
-/
import Derived.Test.YthnickjbknpmhaaDoorNumReg2
import Derived.Test.YthnickjbknpmhaaDoorNumRing
namespace Go.Proofs.YthnickjbknpmhaaDoor
open Go.RowKit Go.Shelf

theorem dd_len_pos {v : Nat} (h : v ≠ 0) : 0 < (dd v).length := by rw [dd_pos h]; simp
theorem dd_low : ∀ v : Nat, v ≠ 0 → 10 ^ ((dd v).length - 1) ≤ v := by
  intro v
  induction v using Nat.strongRecOn with
  | _ v ih =>
    intro h
    rw [dd_pos h, List.length_append, List.length_singleton, Nat.add_sub_cancel]
    by_cases h2 : v < 10
    · rw [show v / 10 = 0 by omega, dd_zero]; simp; omega
    · have h3 : v / 10 ≠ 0 := by omega
      have h4 := ih (v / 10) (by omega) h3
      have h5 := dd_len_pos h3
      rw [show (dd (v / 10)).length = ((dd (v / 10)).length - 1) + 1 by omega, Nat.pow_succ]
      omega
theorem dec_lt_of_len {u v : Nat} (h : (Lib.decDigits u).length < (Lib.decDigits v).length) : u < v := by
  have hv : v ≠ 0 := by
    rintro rfl
    rw [dec_zero] at h
    have := List.length_pos_iff.2 (dec_ne_nil u)
    rw [List.length_singleton] at h
    omega
  have h1 := dval_lt (allD_dec u)
  rw [dval_dec] at h1
  have h2 := dd_low v hv
  rw [dd_dec v hv] at h
  have h3 : 10 ^ (Lib.decDigits u).length ≤ 10 ^ ((dd v).length - 1) := Nat.pow_le_pow_right (by decide) (by omega)
  exact Nat.lt_of_lt_of_le h1 (Nat.le_trans h3 h2)
theorem dval_cons (b : UInt8) (l : List UInt8) : dval (b :: l) = (b.toNat - 48) * 10 ^ l.length + dval l := by
  have e2 : dval (b :: l) = dvalA (0 * 10 + (b.toNat - 48)) l := rfl
  rw [e2, dvalA_eq, Nat.zero_mul, Nat.zero_add]
theorem less_dval : ∀ (l r : List UInt8), AllD l → AllD r → l.length = r.length → (Op.bytesLess l r = true ↔ dval l < dval r)
  | [], [], _, _, _ => by simp [Op.bytesLess]
  | [], _ :: _, _, _, h => by simp at h
  | _ :: _, [], _, _, h => by simp at h
  | a :: l, b :: r, hl, hr, h => by
    have hl2 : AllD l := fun c hc => hl c (by simp [hc])
    have hr2 : AllD r := fun c hc => hr c (by simp [hc])
    have hlen : l.length = r.length := by simpa using h
    have ih := less_dval l r hl2 hr2 hlen
    have b1 := hl a (by simp)
    have b2 := hr b (by simp)
    have l1 := dval_lt hl2
    have l2 := dval_lt hr2
    rw [← hlen] at l2
    rw [dval_cons, dval_cons, ← hlen]
    simp only [Op.bytesLess, Bool.or_eq_true, Bool.and_eq_true, decide_eq_true_eq, beq_iff_eq, ih, UInt8.lt_iff_toNat_lt]
    rcases Nat.lt_trichotomy a.toNat b.toNat with h1 | h1 | h1
    · have h3 : ((a.toNat - 48) + 1) * 10 ^ l.length ≤ (b.toNat - 48) * 10 ^ l.length := Nat.mul_le_mul_right _ (by omega)
      rw [Nat.add_mul, Nat.one_mul] at h3
      exact ⟨fun _ => by omega, fun _ => .inl h1⟩
    · have e : a = b := UInt8.toNat_inj.1 h1
      subst e
      exact ⟨fun h => by rcases h with h | h <;> omega, fun h => .inr ⟨rfl, by omega⟩⟩
    · have h3 : ((b.toNat - 48) + 1) * 10 ^ l.length ≤ (a.toNat - 48) * 10 ^ l.length := Nat.mul_le_mul_right _ (by omega)
      rw [Nat.add_mul, Nat.one_mul] at h3
      exact ⟨fun h => by rcases h with h | ⟨h, _⟩
                         · omega
                         · subst h; omega, fun h => by omega⟩
theorem dec_less {u v : Nat} (h : (Lib.decDigits u).length = (Lib.decDigits v).length) : Op.bytesLess (Lib.decDigits u) (Lib.decDigits v) = decide (u < v) := by
  have := less_dval _ _ (allD_dec u) (allD_dec v) h
  rw [dval_dec, dval_dec] at this
  by_cases h2 : u < v
  · rw [this.2 h2]; simp [h2]
  · cases hx : Op.bytesLess (Lib.decDigits u) (Lib.decDigits v) with
    | false => simp [h2]
    | true => exact absurd (this.1 hx) h2
theorem dec_inj {u v : Nat} (h : Lib.decDigits u = Lib.decDigits v) : u = v := by rw [← dval_dec u, h, dval_dec]
theorem dec_ten {v d : Nat} (hv : v ≠ 0) (hd : d < 10) : Lib.decDigits (v * 10 + d) = Lib.decDigits v ++ [db d] := by
  rw [dd_dec _ (by omega), dd_pos (by omega), show (v * 10 + d) / 10 = v by omega, show (v * 10 + d) % 10 = d by omega, dd_dec v hv]
theorem dec_one {d : Nat} (hd : d < 10) : Lib.decDigits d = [db d] := by
  rw [Lib.decDigits, dif_pos hd]; rfl
theorem itoa_nat (v : Nat) : Lib.itoa (v : Int) = Lib.decDigits v := by
  unfold Lib.itoa
  rw [if_neg (by omega), Int.toNat_natCast]
theorem itoa_false (v : Nat) : Lib.itoa (sgn false v) = Lib.decDigits v := itoa_nat v
theorem itoa_neg {v : Nat} (h : v ≠ 0) : Lib.itoa (sgn true v) = 45 :: Lib.decDigits v := by
  unfold Lib.itoa sgn
  rw [if_pos (by simp; omega)]
  simp
theorem dec_len640 {v : Nat} (h : v < big) : (Lib.decDigits v).length ≤ 641 := by
  by_cases h0 : v = 0
  · subst h0; rw [dec_zero]; simp
  · rw [dd_dec v h0]
    have h1 := dd_low v h0
    have h2 := Nat.lt_of_le_of_lt h1 (Nat.lt_trans h big_dec)
    have := (Nat.pow_lt_pow_iff_right (a := 10) (by decide)).1 h2
    omega

/-- Opened boxes, in a world that has left the caller's memory as it was. -/
def OBs (w : World) (L : List (Nat × Bool × Option Addr × Nat × Nat × Nat)) (W : World) : Prop := Below w.heap.size w W ∧ ∀ x ∈ L, OB W x.1 x.2.1 x.2.2.1 x.2.2.2.1 x.2.2.2.2.1 x.2.2.2.2.2
theorem OBs.drew {w W : World} {L : List (Nat × Bool × Option Addr × Nat × Nat × Nat)} (h : OBs w L W) : OBs w L W.drew := ⟨h.1.drew, fun x hx => (h.2 x hx).via (Below.refl _ _).drew⟩
theorem OBs.via {w W W1 : World} {L : List (Nat × Bool × Option Addr × Nat × Nat × Nat)} (h : OBs w L W) (hb : Below W.heap.size W W1) : OBs w L W1 := ⟨h.1.trans (hb.mono h.1.size), fun x hx => (h.2 x hx).via hb⟩
theorem OBs.put {w W : World} {L : List (Nat × Bool × Option Addr × Nat × Nat × Nat)} (h : OBs w L W) {q n c : Nat} {g : Bool} {A : Option Addr} (hF : FB W q) (hq : w.heap.size ≤ q) (hL : ∀ x ∈ L, x.1 ≠ q) : OBs w L (put W q g A n c) :=
  ⟨Below.setCell (Below.setCell h.1 hq _) hq _, fun x hx => put_ob hF (hL x hx) (h.2 x hx)⟩
theorem OBs.cons {w W : World} {L : List (Nat × Bool × Option Addr × Nat × Nat × Nat)} (h : OBs w L W) {q n c v : Nat} {g : Bool} {A : Option Addr} (ho : OB W q g A n c v) : OBs w ((q, g, A, n, c, v) :: L) W :=
  ⟨h.1, fun x hx => by
    rcases List.mem_cons.1 hx with rfl | hx
    · exact ho
    · exact h.2 x hx⟩
theorem OBs.lt {w W : World} {L : List (Nat × Bool × Option Addr × Nat × Nat × Nat)} (h : OBs w L W) : ∀ x ∈ L, x.1 < W.heap.size := fun x hx => (h.2 x hx).2.2.2
theorem OBs.zero {w W : World} (h : Below w.heap.size w W) : OBs w [] W := ⟨h, fun _ hx => by cases hx⟩
theorem cmpI_lt {a b : Nat} (h : a < b) : cmpI (sgn false a) (sgn false b) = -1 := by unfold cmpI; rw [if_pos (by simp [sgn]; omega)]
theorem cmpI_gt {a b : Nat} (h : b < a) : cmpI (sgn false a) (sgn false b) = 1 := by unfold cmpI; rw [if_neg (by simp [sgn]; omega), if_pos (by simp [sgn]; omega)]
theorem cmpI_same (a : Nat) : cmpI (sgn false a) (sgn false a) = 0 := by unfold cmpI; simp
theorem OB.sl {W : World} {b : Nat} {neg : Bool} {A : Option Addr} {n c v : Nat} (h : OB W b neg A n c v) : Sl W W.heap.size A n c (digs v) := h.2.2.1
attribute [local go_sem] bapp
set_option maxRecDepth 100000 in
set_option maxHeartbeats 16000000 in
theorem numDigits_walk (A1 A2 : Option Addr) (k1 k2 d1 d2 : Nat) (z1 z2 : List Int) (n : Int) (hn0 : 0 ≤ n) (hn1 : n < 256) (w : World) {B : Nat} (hB : B ≤ w.heap.size) (hT : PowT B w) (hS : SynT B w)
    (h1 : Reads w B 1 A1 k1 (z1.map (Value.int .i64))) (h2 : Reads w B 1 A2 k2 (z2.map (Value.int .i64))) (m1 : k1 ≤ 9223372036854775807) (m2 : k2 ≤ 9223372036854775807) :
    Calls Tryd.prog 7 #[.agg #[.slice A1 k1 d1, .slice A2 k2 d2], .int .u8 n] w fun e w' => e = .returned (.bool true) ∧ Below w.heap.size w w' := by
  have SA := Lib.hid (fun (W : World) (hW : Below w.heap.size w W) => sanity_any W (Nat.le_trans hB hW.size) (hT.below hW hB) (hS.below hW hB))
  have M1 := Lib.hid (fun (W : World) (hW : Below w.heap.size w W) => made_v (W := W) (c := d1) (h1.below (hW.mono hB)) (Nat.le_trans hB hW.size) m1)
  have M2 := Lib.hid (fun (W : World) (hW : Below w.heap.size w W) => made_v (W := W) (c := d2) (h2.below (hW.mono hB)) (Nat.le_trans hB hW.size) m2)
  have HP := Lib.hid (fun (W : World) (hW : Below w.heap.size w W) => And.intro (Nat.le_trans hB hW.size) (And.intro (hT.below hW hB) (hS.below hW hB)))
  clear h1 h2 m1 m2 hT hS
  obtain ⟨ga, va, ra, ea, ga', va', ba⟩ := rt_made z1
  obtain ⟨gb, vb, rb, eb, gb', vb', bb⟩ := rt_made z2
  rw [ga', va'] at M1
  rw [gb', vb'] at M2
  clear ga' va' gb' vb' ea eb
  have F := Lib.hid (And.intro ra (And.intro ba (And.intro rb bb)))
  clear ra ba rb bb
  obtain ⟨d, hdd, hdn⟩ : ∃ d : Nat, d < 10 ∧ Int.tmod n 10 = (d : Int) := ⟨(n.tmod 10).toNat, by have := Int.tmod_eq_emod_of_nonneg (b := 10) hn0; omega, by have := Int.tmod_eq_emod_of_nonneg (b := 10) hn0; omega⟩
  go_enter Tryd.func7, Tryd.ntmps7
  have l0 := AM.start (w := w) (arr := #[.slice A1 k1 d1, .slice A2 k2 d2]) (T := 47)
  go_upto_region 2 with (first
    | (go_at_call 8; (with_reducible refine (SA.out _ l0.below).mono ?_); rintro e w1 ⟨rfl, hb⟩; have l1 := l0.via hb; clear hb l0)
    | fail "no arm")
  refine dgt_region _ _ w w1 A1 k1 d1 ga va A2 k2 d2 gb vb rfl (by kernel_rfl) (by simp) rfl l1 M1.out M2.out
    rfl rfl rfl rfl rfl rfl rfl rfl rfl rfl
    (by kernel_rfl) (by kernel_rfl) (by kernel_rfl) (by kernel_rfl) (by kernel_rfl) (by kernel_rfl) (by kernel_rfl) (by kernel_rfl) (by kernel_rfl) ?_
  rintro f W0 hA ⟨q0, A_a, n_a, c_a, q1, A_b, n_b, c_b, z0, r0, _, ob_a, u0, z1, r1, _, ob_b, u1, _⟩
  simp only [patch_cons, patch_nil, z0, r0, z1, r1]
  have hBB := hA.below
  clear hA z0 z1 r0 r1 l1 M1 M2 SA
  obtain ⟨ra, ba, rb, bb⟩ := F.out
  clear F hB
  obtain ⟨x0, x1, _, _⟩ := id ob_a
  go_upto_region 5 with fail
  have oc := (((OBs.zero hBB).cons ob_b).cons ob_a).via ((Below.refl _ _).alloc (Nat.le_refl _) (.cells #[.bool false, .slice A_a n_a c_a] 25))
  have ob_p := OB.newg (neg := false) (g := W0.heap.size) ob_a.2.2.1 25 rfl
  replace oc := oc.cons ob_p
  clear ob_a ob_b ob_p x0 x1
  obtain ⟨W1, hW1⟩ : ∃ W1, W0.alloc (.cells #[.bool false, .slice A_a n_a c_a] 25) = W1 := ⟨_, rfl⟩
  have hz1 : W0.heap.size + 1 = W1.heap.size := by rw [← hW1, World.size_alloc]
  have l1 := oc.lt
  have rt : Rt false (va * 10) := ⟨fun _ => rfl, by unfold six big at *; omega⟩
  have rn : Rt false (va * 10 + d) := ⟨fun _ => rfl, by unfold six big at *; omega⟩
  have r10 : Rt false 10 := Rt.small (by omega)
  have rd : Rt false d := Rt.small (by omega)
  have hsz := hBB.size
  rw [hW1] at oc l1 ⊢
  refine dg5_region (OBs w _) _ _ _ W0.heap.size false A_a n_a c_a va 0 false 10 false (va * 10) rfl (by kernel_rfl) (by simp) (by omega) oc.drew (fun W W1 h hb => h.via hb)
    W0.heap.size rfl (fun W h => h.2 _ (List.mem_cons_self ..)) (fun W => of_v r10 (x := 10) rfl (by omega) (by omega)) (fun W A2 n2 c2 h h2 => mul_v ra.abs r10 rt (by simp [sgn]) h h2)
    (fun W q g A n c h hF hq => h.put hF (by omega) (fun x hx => by have := l1 x hx; omega))
    rfl rfl rfl rfl rfl rfl rfl rfl rfl
    (by kernel_rfl) (by kernel_rfl) (by kernel_rfl) (by kernel_rfl) (by kernel_rfl) (by kernel_rfl) (by kernel_rfl) (by kernel_rfl) (by kernel_rfl) ?_
  rintro f5 W5 hM5 ⟨q3, A_t, n_t, c_t, y0, ob_t, y1⟩
  simp only [patch_cons, patch_nil, y0, y1]
  clear y0 y1 oc l1 hz1 hsz hBB
  simp only [List.setIfInBounds_toArray, List.set_cons_zero, List.set_cons_succ]
  go_upto_region 6 with fail
  replace hM5 := hM5.cons ob_t
  clear ob_t hW1
  have hsz := hM5.1.size
  have hz5 := (hM5.2 _ (List.mem_cons_self ..)).2.2.2
  have l5 := hM5.lt
  obtain ⟨z, hz⟩ : ∃ z, z + 1 = W5.heap.size := ⟨W5.heap.size - 1, by omega⟩
  refine dg6_region (OBs w _) _ _ _ z false A_t n_t c_t (va * 10) (d : Int) false d false (va * 10 + d) rfl (by kernel_rfl) (by simp) (by omega) hM5.drew (fun W W1 h hb => h.via hb)
    q3 rfl (fun W h => h.2 _ (List.mem_cons_self ..)) rfl (fun W => of_v rd (x := (d : Int)) rfl (by omega) (by omega)) (fun W A2 n2 c2 h h2 => add_v rt rd rn (by simp [sgn]) h h2)
    (fun W q g A n c h hF hq => h.put hF (by have := u0; omega) (fun x hx => by have := l5 x hx; omega))
    rfl rfl rfl rfl rfl rfl rfl rfl rfl rfl
    (by kernel_rfl) (by kernel_rfl) (by kernel_rfl) (by kernel_rfl) (by kernel_rfl) (by kernel_rfl) (by kernel_rfl) (by kernel_rfl) (by kernel_rfl) (by kernel_rfl) ?_
  rintro f6 W6 hM6 ⟨q4, A_n, n_n, c_n, y0, ob_n, y1⟩
  simp only [patch_cons, patch_nil, y0, y1]
  clear y0 y1 hM5 l5 hsz hz5 hz
  simp only [List.setIfInBounds_toArray, List.set_cons_zero, List.set_cons_succ]
  go_upto_region 7 with fail
  replace hM6 := hM6.cons ob_n
  clear ob_n z W5
  have hsz := hM6.1.size
  have hz6 := (hM6.2 _ (List.mem_cons_self ..)).2.2.2
  obtain ⟨z, hz⟩ : ∃ z, z + 1 = W6.heap.size := ⟨W6.heap.size - 1, by omega⟩
  obtain ⟨tx, htx⟩ : ∃ tx, Lib.decDigits va = tx := ⟨_, rfl⟩
  obtain ⟨tu, htu⟩ : ∃ tu, Lib.decDigits vb = tu := ⟨_, rfl⟩
  obtain ⟨tn, htn⟩ : ∃ tn, Lib.decDigits (va * 10 + d) = tn := ⟨_, rfl⟩
  obtain ⟨ta, hta⟩ : ∃ ta, Lib.itoa (sgn ga va) = ta := ⟨_, rfl⟩
  have hlx : tx.length ≤ 641 := by rw [← htx]; exact dec_len640 ra.2
  have hlu : tu.length ≤ 641 := by rw [← htu]; exact dec_len640 rb.2
  have TP := Lib.hid (fun (W : World) (hW : Below w.heap.size w W) (A : Option Addr) (n c : Nat) (h : Sl W W.heap.size A n c (digs va)) => text_v ra.abs ((itoa_false va).trans htx) (HP.out W hW).1 (HP.out W hW).2.1 h)
  have TB := Lib.hid (fun (W : World) (hW : Below w.heap.size w W) (A : Option Addr) (n c : Nat) (h : Sl W W.heap.size A n c (digs vb)) => text_v rb.abs ((itoa_false vb).trans htu) (HP.out W hW).1 (HP.out W hW).2.1 h)
  have TN := Lib.hid (fun (W : World) (hW : Below w.heap.size w W) (A : Option Addr) (n c : Nat) (h : Sl W W.heap.size A n c (digs (va * 10 + d))) => text_v rn ((itoa_false _).trans htn) (HP.out W hW).1 (HP.out W hW).2.1 h)
  have TA := Lib.hid (fun (W : World) (hW : Below w.heap.size w W) (A : Option Addr) (n c : Nat) (h : Sl W W.heap.size A n c (digs va)) => text_v ra hta (HP.out W hW).1 (HP.out W hW).2.1 h)
  have PA := Lib.hid (fun (W : World) (hW : Below w.heap.size w W) => parse_v (s := ta) ra (by rw [← hta]; exact parseS_itoa (by rw [sgn_abs]; exact ra.2)) (HP.out W hW).1 (HP.out W hW).2.1 (HP.out W hW).2.2)
  have SB := Lib.hid (fun (W : World) (A A2 : Option Addr) (n c n2 c2 : Nat) (h : Sl W W.heap.size A n c (digs va)) (h2 : Sl W W.heap.size A2 n2 c2 (digs va)) => same_v ra ra (b := true) (decide_eq_true rfl) h h2)
  obtain ⟨o, ho⟩ : ∃ o, cmpI (sgn false va) (sgn false vb) = o := ⟨_, rfl⟩
  have CP := Lib.hid (fun (W : World) (A A2 : Option Addr) (n c n2 c2 : Nat) (h : Sl W W.heap.size A n c (digs va)) (h2 : Sl W W.heap.size A2 n2 c2 (digs vb)) => cmp_v ra.abs rb.abs ho h h2)
  refine dg7_region (OBs w _) _ _ _ z A_a n_a c_a d tx rfl (by kernel_rfl) (by simp) (by omega) hM6.drew (fun W W1 h hb => h.via hb)
    W0.heap.size va hdd (by omega) rfl (fun W h => h.2 _ (List.mem_cons_of_mem _ (List.mem_cons_of_mem _ (List.mem_cons_self ..)))) rfl (fun W h => TP.out _ h.1 _ _ _ (h.2 _ (List.mem_cons_of_mem _ (List.mem_cons_of_mem _ (List.mem_cons_self ..)))).2.2.1)
    rfl rfl rfl rfl rfl rfl rfl rfl rfl
    (by kernel_rfl) (by kernel_rfl) (by kernel_rfl) (by kernel_rfl) (by kernel_rfl) (by kernel_rfl) (by kernel_rfl) (by kernel_rfl) ?_
  rintro f7 W7 hM7 y0
  rw [show dg7Ph1 d tx f7 W7 = (f7 14 = .string ⟨(tx ++ [db d]).toArray⟩) from rfl] at y0
  simp only [patch_cons, patch_nil, y0]
  clear y0 hM6 hsz hz6 hz z W6
  simp only [List.setIfInBounds_toArray, List.set_cons_zero, List.set_cons_succ]
  obtain ⟨hBB, hL⟩ := hM7
  have ob_n := hL _ (List.mem_cons_self ..)
  have ob_t := hL _ (List.mem_cons_of_mem _ (List.mem_cons_self ..))
  have ob_p := hL _ (List.mem_cons_of_mem _ (List.mem_cons_of_mem _ (List.mem_cons_self ..)))
  have ob_a := hL _ (List.mem_cons_of_mem _ (List.mem_cons_of_mem _ (List.mem_cons_of_mem _ (List.mem_cons_self ..))))
  have ob_b := hL _ (List.mem_cons_of_mem _ (List.mem_cons_of_mem _ (List.mem_cons_of_mem _ (List.mem_cons_of_mem _ (List.mem_cons_self ..)))))
  clear hL ob_t
  dsimp only at ob_n ob_p ob_a ob_b
  generalize W0.heap.size = q2 at *
  clear rt rn r10 rd HP hn0 hn1 hdn

  by_cases hv : va = 0
  · obtain rfl : ga = false := ra.1 hv
    obtain ⟨_, _, hs, _⟩ := id ob_a
    have hza : ((n_a : Int) == 0) = true := by have := (none_digs hs).2 hv; simp; omega
    clear hs
    go_upto_region 10 with fail
    have hex : (⟨(tx ++ [db d]).toArray⟩ : ByteArray).extract (min 1 ((tx.length : Int) + 1)).toNat (tx.length + 1) = ⟨tn.toArray⟩ := by
      rw [← htx, ← htn, hv, dec_zero, Nat.zero_mul, Nat.zero_add, dec_one hdd]
      rfl
    rw [hex]
    clear hex htn hta
    have tk1 : Hid True := trivial
    have tk2 : Hid True := trivial
    obtain ⟨g0_a, g1_a, hs_a, gz_a⟩ := id ob_a
    go_upto_region 11 with (first
      | (clear tk1; go_at_call 12; (with_reducible refine (TA.out _ hBB _ _ _ hs_a).mono ?_); rintro e w1 ⟨rfl, hb⟩; replace ob_a := ob_a.via hb; replace ob_b := ob_b.via hb; replace ob_p := ob_p.via hb; replace ob_n := ob_n.via hb; replace hBB := hBB.trans (hb.mono hBB.size); clear hb; clear g0_a g1_a hs_a gz_a)
      | (clear tk2; go_at_call 13; (with_reducible refine (PA.out _ hBB).mono ?_); rintro e w2 ⟨A_k, n_k, c_k, rfl, hs_k, hb⟩; replace ob_a := ob_a.via hb; replace ob_b := ob_b.via hb; replace ob_p := ob_p.via hb; replace ob_n := ob_n.via hb; replace hBB := hBB.trans (hb.mono hBB.size); clear hb; have ob_k := OB.newg (neg := false) (g := w2.heap.size) hs_k 25 (rfl); clear hs_k; replace ob_a := ob_a.alloc_ (.cells #[.bool false, .slice A_k n_k c_k] 25); replace ob_b := ob_b.alloc_ (.cells #[.bool false, .slice A_k n_k c_k] 25); replace ob_p := ob_p.alloc_ (.cells #[.bool false, .slice A_k n_k c_k] 25); replace ob_n := ob_n.alloc_ (.cells #[.bool false, .slice A_k n_k c_k] 25); replace hBB := hBB.alloc hBB.size (.cells #[.bool false, .slice A_k n_k c_k] 25))
      | fail "no arm")
    replace ob_a := ob_a.via (Below.refl _ _).drew
    replace ob_b := ob_b.via (Below.refl _ _).drew
    replace ob_p := ob_p.via (Below.refl _ _).drew
    replace ob_n := ob_n.via (Below.refl _ _).drew
    replace ob_k := ob_k.via (Below.refl _ _).drew
    replace hBB := hBB.drew
    have oc := ((((OBs.zero hBB).cons ob_b).cons ob_p).cons ob_a).cons ob_n
    replace oc := oc.cons ob_k
    clear ob_a ob_b ob_p ob_n ob_k hBB
    refine dg11_region (OBs w _) _ _ _ A_a n_a c_a A_n n_n c_n A_k n_k c_k tn q0 rfl (by kernel_rfl) (by simp) oc (fun W W1 h hb => h.via hb)
      rfl rfl rfl rfl q4 w2.heap.size rfl rfl rfl (fun W h => ⟨(h.2 _ (List.mem_cons_of_mem _ (List.mem_cons_self ..))).1, (h.2 _ (List.mem_cons_of_mem _ (List.mem_cons_self ..))).2.1⟩) (fun W h => ⟨(h.2 _ (List.mem_cons_self ..)).1, (h.2 _ (List.mem_cons_self ..)).2.1⟩) (fun W h => ⟨(h.2 _ (List.mem_cons_of_mem _ (List.mem_cons_of_mem _ (List.mem_cons_self ..)))).1, (h.2 _ (List.mem_cons_of_mem _ (List.mem_cons_of_mem _ (List.mem_cons_self ..)))).2.1⟩)
      (fun W h => TN.out W h.1 _ _ _ (h.2 _ (List.mem_cons_of_mem _ (List.mem_cons_self ..))).sl) (fun W h => SB.out W _ _ _ _ _ _ (h.2 _ (List.mem_cons_self ..)).sl (h.2 _ (List.mem_cons_of_mem _ (List.mem_cons_of_mem _ (List.mem_cons_self ..)))).sl)
      rfl rfl rfl rfl rfl rfl rfl rfl rfl rfl rfl rfl rfl rfl rfl rfl rfl rfl rfl rfl rfl rfl rfl rfl rfl rfl rfl rfl rfl rfl rfl rfl rfl rfl
      (by kernel_rfl) (by kernel_rfl) (by kernel_rfl) (by kernel_rfl) (by kernel_rfl) (by kernel_rfl) (by kernel_rfl) (by kernel_rfl) (by kernel_rfl) (by kernel_rfl) (by kernel_rfl) (by kernel_rfl) (by kernel_rfl) (by kernel_rfl) (by kernel_rfl) (by kernel_rfl) (by kernel_rfl) (by kernel_rfl) (by kernel_rfl) (by kernel_rfl) (by kernel_rfl) (by kernel_rfl) (by kernel_rfl) (by kernel_rfl) (by kernel_rfl) (by kernel_rfl) (by kernel_rfl) (by kernel_rfl) (by kernel_rfl) (by kernel_rfl) (by kernel_rfl) (by kernel_rfl) (by kernel_rfl) (by kernel_rfl) (by kernel_rfl) (by kernel_rfl) (by kernel_rfl) (by kernel_rfl) (by kernel_rfl) (by kernel_rfl) (by kernel_rfl) (by kernel_rfl) (by kernel_rfl) (by kernel_rfl) (by kernel_rfl) (by kernel_rfl) (by kernel_rfl) (by kernel_rfl) (by kernel_rfl) ?_
    rintro f8 W8 hM8 y0
    simp only [patch_cons, patch_nil, y0]
    simp only [List.setIfInBounds_toArray, List.set_cons_zero, List.set_cons_succ]
    obtain ⟨hBB, hL⟩ := hM8
    have ob_b := (hL _ (List.mem_cons_of_mem _ (List.mem_cons_of_mem _ (List.mem_cons_of_mem _ (List.mem_cons_of_mem _ (List.mem_cons_self ..))))))
    have ob_p := (hL _ (List.mem_cons_of_mem _ (List.mem_cons_of_mem _ (List.mem_cons_of_mem _ (List.mem_cons_self ..)))))
    clear hL y0 oc
    dsimp only at ob_b ob_p
    go_upto_region 13 with fail
    have oc := (((OBs.zero hBB).cons ob_b).cons ob_p).drew
    clear ob_b ob_p hBB
    refine dg13_region (OBs w _) _ _ _ A_a n_a c_a A_b n_b c_b tx tu q1 rfl (by kernel_rfl) (by simp) oc (fun W W1 h hb => h.via hb)
      q2 rfl rfl (fun W h => ⟨(h.2 _ (List.mem_cons_self ..)).1, (h.2 _ (List.mem_cons_self ..)).2.1⟩) (fun W h => (h.2 _ (List.mem_cons_of_mem _ (List.mem_cons_self ..))).2.1) (fun W h => TP.out W h.1 _ _ _ (h.2 _ (List.mem_cons_self ..)).sl) (fun W h => TB.out W h.1 _ _ _ (h.2 _ (List.mem_cons_of_mem _ (List.mem_cons_self ..))).sl)
      rfl rfl rfl rfl rfl rfl rfl rfl
      (by kernel_rfl) (by kernel_rfl) (by kernel_rfl) (by kernel_rfl) (by kernel_rfl) (by kernel_rfl) ?_
    rintro f9 W9 ⟨hBB, hL⟩ y0 y1
    simp only [patch_cons, patch_nil, y0, y1]
    simp only [List.setIfInBounds_toArray, List.set_cons_zero, List.set_cons_succ]
    have ob_p := hL _ (List.mem_cons_self ..)
    have ob_b := hL _ (List.mem_cons_of_mem _ (List.mem_cons_self ..))
    dsimp only at ob_b ob_p
    clear hL y0 y1 oc
    have tk1 : Hid True := trivial
    obtain ⟨g0_p, g1_p, hs_p, gz_p⟩ := id ob_p
    obtain ⟨g0_b, g1_b, hs_b, gz_b⟩ := id ob_b
    go_upto_region 15 with (first
      | (clear tk1; go_at_call 21; (with_reducible refine (CP.out _ _ _ _ _ _ _ hs_p hs_b).mono ?_); rintro e w1 ⟨rfl, hb⟩; replace ob_b := ob_b.via hb; replace ob_p := ob_p.via hb; replace hBB := hBB.trans (hb.mono hBB.size); clear hb; clear g0_p g1_p hs_p gz_p; clear g0_b g1_b hs_b gz_b)
      | fail "no arm")
    rcases Nat.lt_trichotomy va vb with h | h | h
    · obtain rfl : o = -1 := by rw [← ho]; exact cmpI_lt h
      by_cases hl : tx.length = tu.length
      · have hne : (tx == tu) = false := by rw [← htx, ← htu]; exact beq_false_of_ne (fun e => by have := dec_inj e; omega)
        have hls : Op.bytesLess tx tu = true := by rw [← htx, ← htu, dec_less (by rw [htx, htu]; exact hl)]; simp [h]
        go_wp2
        go_ret
        exact ⟨rfl, hBB⟩
      · have hln : (tx.length : Int) < tu.length := by
          rcases Nat.lt_or_ge tx.length tu.length with h2 | h2
          · omega
          · have := dec_lt_of_len (u := vb) (v := va) (by rw [htx, htu]; omega); omega
        have hle : ((tx.length : Int) == tu.length) = false := by simp; omega
        go_wp2
        go_ret
        exact ⟨rfl, hBB⟩
    · subst h
      obtain rfl : tx = tu := by rw [← htx, ← htu]
      obtain rfl : o = 0 := by rw [← ho]; exact cmpI_same _
      have hls : Op.bytesLess tx tx = false := by rw [← htx, dec_less rfl]; simp
      go_wp2
      go_ret
      exact ⟨rfl, hBB⟩
    · omega
  · obtain ⟨_, _, hs, _⟩ := id ob_a
    have hza : ((n_a : Int) == 0) = false := by have := (none_digs hs).1; simp; omega
    clear hs
    go_upto_region 10 with fail
    have hex : tx ++ [db d] = tn := by rw [← htx, ← htn, dec_ten hv hdd]
    rw [hex]
    clear hex htn
    cases ga with
    | false =>
      clear hta
      have tk1 : Hid True := trivial
      have tk2 : Hid True := trivial
      obtain ⟨g0_a, g1_a, hs_a, gz_a⟩ := id ob_a
      go_upto_region 11 with (first
        | (clear tk1; go_at_call 12; (with_reducible refine (TA.out _ hBB _ _ _ hs_a).mono ?_); rintro e w1 ⟨rfl, hb⟩; replace ob_a := ob_a.via hb; replace ob_b := ob_b.via hb; replace ob_p := ob_p.via hb; replace ob_n := ob_n.via hb; replace hBB := hBB.trans (hb.mono hBB.size); clear hb; clear g0_a g1_a hs_a gz_a)
        | (clear tk2; go_at_call 13; (with_reducible refine (PA.out _ hBB).mono ?_); rintro e w2 ⟨A_k, n_k, c_k, rfl, hs_k, hb⟩; replace ob_a := ob_a.via hb; replace ob_b := ob_b.via hb; replace ob_p := ob_p.via hb; replace ob_n := ob_n.via hb; replace hBB := hBB.trans (hb.mono hBB.size); clear hb; have ob_k := OB.newg (neg := false) (g := w2.heap.size) hs_k 25 (rfl); clear hs_k; replace ob_a := ob_a.alloc_ (.cells #[.bool false, .slice A_k n_k c_k] 25); replace ob_b := ob_b.alloc_ (.cells #[.bool false, .slice A_k n_k c_k] 25); replace ob_p := ob_p.alloc_ (.cells #[.bool false, .slice A_k n_k c_k] 25); replace ob_n := ob_n.alloc_ (.cells #[.bool false, .slice A_k n_k c_k] 25); replace hBB := hBB.alloc hBB.size (.cells #[.bool false, .slice A_k n_k c_k] 25))
        | fail "no arm")
      replace ob_a := ob_a.via (Below.refl _ _).drew
      replace ob_b := ob_b.via (Below.refl _ _).drew
      replace ob_p := ob_p.via (Below.refl _ _).drew
      replace ob_n := ob_n.via (Below.refl _ _).drew
      replace ob_k := ob_k.via (Below.refl _ _).drew
      replace hBB := hBB.drew
      have oc := ((((OBs.zero hBB).cons ob_b).cons ob_p).cons ob_a).cons ob_n
      replace oc := oc.cons ob_k
      clear ob_a ob_b ob_p ob_n ob_k hBB
      refine dg11_region (OBs w _) _ _ _ A_a n_a c_a A_n n_n c_n A_k n_k c_k tn q0 rfl (by kernel_rfl) (by simp) oc (fun W W1 h hb => h.via hb)
        rfl rfl rfl rfl q4 w2.heap.size rfl rfl rfl (fun W h => ⟨(h.2 _ (List.mem_cons_of_mem _ (List.mem_cons_self ..))).1, (h.2 _ (List.mem_cons_of_mem _ (List.mem_cons_self ..))).2.1⟩) (fun W h => ⟨(h.2 _ (List.mem_cons_self ..)).1, (h.2 _ (List.mem_cons_self ..)).2.1⟩) (fun W h => ⟨(h.2 _ (List.mem_cons_of_mem _ (List.mem_cons_of_mem _ (List.mem_cons_self ..)))).1, (h.2 _ (List.mem_cons_of_mem _ (List.mem_cons_of_mem _ (List.mem_cons_self ..)))).2.1⟩)
        (fun W h => TN.out W h.1 _ _ _ (h.2 _ (List.mem_cons_of_mem _ (List.mem_cons_self ..))).sl) (fun W h => SB.out W _ _ _ _ _ _ (h.2 _ (List.mem_cons_self ..)).sl (h.2 _ (List.mem_cons_of_mem _ (List.mem_cons_of_mem _ (List.mem_cons_self ..)))).sl)
        rfl rfl rfl rfl rfl rfl rfl rfl rfl rfl rfl rfl rfl rfl rfl rfl rfl rfl rfl rfl rfl rfl rfl rfl rfl rfl rfl rfl rfl rfl rfl rfl rfl rfl
        (by kernel_rfl) (by kernel_rfl) (by kernel_rfl) (by kernel_rfl) (by kernel_rfl) (by kernel_rfl) (by kernel_rfl) (by kernel_rfl) (by kernel_rfl) (by kernel_rfl) (by kernel_rfl) (by kernel_rfl) (by kernel_rfl) (by kernel_rfl) (by kernel_rfl) (by kernel_rfl) (by kernel_rfl) (by kernel_rfl) (by kernel_rfl) (by kernel_rfl) (by kernel_rfl) (by kernel_rfl) (by kernel_rfl) (by kernel_rfl) (by kernel_rfl) (by kernel_rfl) (by kernel_rfl) (by kernel_rfl) (by kernel_rfl) (by kernel_rfl) (by kernel_rfl) (by kernel_rfl) (by kernel_rfl) (by kernel_rfl) (by kernel_rfl) (by kernel_rfl) (by kernel_rfl) (by kernel_rfl) (by kernel_rfl) (by kernel_rfl) (by kernel_rfl) (by kernel_rfl) (by kernel_rfl) (by kernel_rfl) (by kernel_rfl) (by kernel_rfl) (by kernel_rfl) (by kernel_rfl) (by kernel_rfl) ?_
      rintro f8 W8 hM8 y0
      simp only [patch_cons, patch_nil, y0]
      simp only [List.setIfInBounds_toArray, List.set_cons_zero, List.set_cons_succ]
      obtain ⟨hBB, hL⟩ := hM8
      have ob_b := (hL _ (List.mem_cons_of_mem _ (List.mem_cons_of_mem _ (List.mem_cons_of_mem _ (List.mem_cons_of_mem _ (List.mem_cons_self ..))))))
      have ob_p := (hL _ (List.mem_cons_of_mem _ (List.mem_cons_of_mem _ (List.mem_cons_of_mem _ (List.mem_cons_self ..)))))
      clear hL y0 oc
      dsimp only at ob_b ob_p
      go_upto_region 13 with fail
      have oc := (((OBs.zero hBB).cons ob_b).cons ob_p).drew
      clear ob_b ob_p hBB
      refine dg13_region (OBs w _) _ _ _ A_a n_a c_a A_b n_b c_b tx tu q1 rfl (by kernel_rfl) (by simp) oc (fun W W1 h hb => h.via hb)
        q2 rfl rfl (fun W h => ⟨(h.2 _ (List.mem_cons_self ..)).1, (h.2 _ (List.mem_cons_self ..)).2.1⟩) (fun W h => (h.2 _ (List.mem_cons_of_mem _ (List.mem_cons_self ..))).2.1) (fun W h => TP.out W h.1 _ _ _ (h.2 _ (List.mem_cons_self ..)).sl) (fun W h => TB.out W h.1 _ _ _ (h.2 _ (List.mem_cons_of_mem _ (List.mem_cons_self ..))).sl)
        rfl rfl rfl rfl rfl rfl rfl rfl
        (by kernel_rfl) (by kernel_rfl) (by kernel_rfl) (by kernel_rfl) (by kernel_rfl) (by kernel_rfl) ?_
      rintro f9 W9 ⟨hBB, hL⟩ y0 y1
      simp only [patch_cons, patch_nil, y0, y1]
      simp only [List.setIfInBounds_toArray, List.set_cons_zero, List.set_cons_succ]
      have ob_p := hL _ (List.mem_cons_self ..)
      have ob_b := hL _ (List.mem_cons_of_mem _ (List.mem_cons_self ..))
      dsimp only at ob_b ob_p
      clear hL y0 y1 oc
      have tk1 : Hid True := trivial
      obtain ⟨g0_p, g1_p, hs_p, gz_p⟩ := id ob_p
      obtain ⟨g0_b, g1_b, hs_b, gz_b⟩ := id ob_b
      go_upto_region 15 with (first
        | (clear tk1; go_at_call 21; (with_reducible refine (CP.out _ _ _ _ _ _ _ hs_p hs_b).mono ?_); rintro e w1 ⟨rfl, hb⟩; replace ob_b := ob_b.via hb; replace ob_p := ob_p.via hb; replace hBB := hBB.trans (hb.mono hBB.size); clear hb; clear g0_p g1_p hs_p gz_p; clear g0_b g1_b hs_b gz_b)
        | fail "no arm")
      rcases Nat.lt_trichotomy va vb with h | h | h
      · obtain rfl : o = -1 := by rw [← ho]; exact cmpI_lt h
        by_cases hl : tx.length = tu.length
        · have hne : (tx == tu) = false := by rw [← htx, ← htu]; exact beq_false_of_ne (fun e => by have := dec_inj e; omega)
          have hls : Op.bytesLess tx tu = true := by rw [← htx, ← htu, dec_less (by rw [htx, htu]; exact hl)]; simp [h]
          go_wp2
          go_ret
          exact ⟨rfl, hBB⟩
        · have hln : (tx.length : Int) < tu.length := by
            rcases Nat.lt_or_ge tx.length tu.length with h2 | h2
            · omega
            · have := dec_lt_of_len (u := vb) (v := va) (by rw [htx, htu]; omega); omega
          have hle : ((tx.length : Int) == tu.length) = false := by simp; omega
          go_wp2
          go_ret
          exact ⟨rfl, hBB⟩
      · subst h
        obtain rfl : tx = tu := by rw [← htx, ← htu]
        obtain rfl : o = 0 := by rw [← ho]; exact cmpI_same _
        have hls : Op.bytesLess tx tx = false := by rw [← htx, dec_less rfl]; simp
        go_wp2
        go_ret
        exact ⟨rfl, hBB⟩
      · obtain rfl : o = 1 := by rw [← ho]; exact cmpI_gt h
        by_cases hl : tx.length = tu.length
        · have hne : (tx == tu) = false := by rw [← htx, ← htu]; exact beq_false_of_ne (fun e => by have := dec_inj e; omega)
          have hls : Op.bytesLess tx tu = false := by rw [← htx, ← htu, dec_less (by rw [htx, htu]; exact hl)]; simp; omega
          go_wp2
          go_ret
          exact ⟨rfl, hBB⟩
        · have hln : ¬ (tx.length : Int) < tu.length := by
            intro h2
            have := dec_lt_of_len (u := va) (v := vb) (by rw [htx, htu]; omega); omega
          have hle : ((tx.length : Int) == tu.length) = false := by simp; omega
          go_wp2
          go_ret
          exact ⟨rfl, hBB⟩
    | true =>
      obtain rfl : ta = 45 :: tx := by rw [← hta, itoa_neg hv, htx]
      clear hta
      have tk1 : Hid True := trivial
      have tk2 : Hid True := trivial
      obtain ⟨g0_a, g1_a, hs_a, gz_a⟩ := id ob_a
      go_upto_region 11 with (first
        | (clear tk1; go_at_call 12; (with_reducible refine (TA.out _ hBB _ _ _ hs_a).mono ?_); rintro e w1 ⟨rfl, hb⟩; replace ob_a := ob_a.via hb; replace ob_b := ob_b.via hb; replace ob_p := ob_p.via hb; replace ob_n := ob_n.via hb; replace hBB := hBB.trans (hb.mono hBB.size); clear hb; clear g0_a g1_a hs_a gz_a)
        | (clear tk2; go_at_call 13; (with_reducible refine (PA.out _ hBB).mono ?_); rintro e w2 ⟨A_k, n_k, c_k, rfl, hs_k, hb⟩; replace ob_a := ob_a.via hb; replace ob_b := ob_b.via hb; replace ob_p := ob_p.via hb; replace ob_n := ob_n.via hb; replace hBB := hBB.trans (hb.mono hBB.size); clear hb; have ob_k := OB.newg (neg := true) (g := w2.heap.size) hs_k 25 (rfl); clear hs_k; replace ob_a := ob_a.alloc_ (.cells #[.bool true, .slice A_k n_k c_k] 25); replace ob_b := ob_b.alloc_ (.cells #[.bool true, .slice A_k n_k c_k] 25); replace ob_p := ob_p.alloc_ (.cells #[.bool true, .slice A_k n_k c_k] 25); replace ob_n := ob_n.alloc_ (.cells #[.bool true, .slice A_k n_k c_k] 25); replace hBB := hBB.alloc hBB.size (.cells #[.bool true, .slice A_k n_k c_k] 25))
        | fail "no arm")
      replace ob_a := ob_a.via (Below.refl _ _).drew
      replace ob_b := ob_b.via (Below.refl _ _).drew
      replace ob_p := ob_p.via (Below.refl _ _).drew
      replace ob_n := ob_n.via (Below.refl _ _).drew
      replace ob_k := ob_k.via (Below.refl _ _).drew
      replace hBB := hBB.drew
      have oc := ((((OBs.zero hBB).cons ob_b).cons ob_p).cons ob_a).cons ob_n
      replace oc := oc.cons ob_k
      clear ob_a ob_b ob_p ob_n ob_k hBB
      refine dg11t_region (OBs w _) _ _ _ A_a n_a c_a A_n n_n c_n A_k n_k c_k tn tx q0 rfl (by kernel_rfl) (by simp) oc (fun W W1 h hb => h.via hb)
        rfl rfl rfl rfl q4 w2.heap.size rfl rfl rfl (fun W h => ⟨(h.2 _ (List.mem_cons_of_mem _ (List.mem_cons_self ..))).1, (h.2 _ (List.mem_cons_of_mem _ (List.mem_cons_self ..))).2.1⟩) (fun W h => ⟨(h.2 _ (List.mem_cons_self ..)).1, (h.2 _ (List.mem_cons_self ..)).2.1⟩) (fun W h => ⟨(h.2 _ (List.mem_cons_of_mem _ (List.mem_cons_of_mem _ (List.mem_cons_self ..)))).1, (h.2 _ (List.mem_cons_of_mem _ (List.mem_cons_of_mem _ (List.mem_cons_self ..)))).2.1⟩)
        (fun W h => TN.out W h.1 _ _ _ (h.2 _ (List.mem_cons_of_mem _ (List.mem_cons_self ..))).sl) (fun W h => SB.out W _ _ _ _ _ _ (h.2 _ (List.mem_cons_self ..)).sl (h.2 _ (List.mem_cons_of_mem _ (List.mem_cons_of_mem _ (List.mem_cons_self ..)))).sl)
        q2 (by omega) rfl (fun W h => ⟨(h.2 _ (List.mem_cons_of_mem _ (List.mem_cons_of_mem _ (List.mem_cons_of_mem _ (List.mem_cons_self ..))))).1, (h.2 _ (List.mem_cons_of_mem _ (List.mem_cons_of_mem _ (List.mem_cons_of_mem _ (List.mem_cons_self ..))))).2.1⟩) (fun W h => TA.out W h.1 _ _ _ (h.2 _ (List.mem_cons_of_mem _ (List.mem_cons_of_mem _ (List.mem_cons_self ..)))).sl) (fun W h => TP.out W h.1 _ _ _ (h.2 _ (List.mem_cons_of_mem _ (List.mem_cons_of_mem _ (List.mem_cons_of_mem _ (List.mem_cons_self ..))))).sl)
        rfl rfl rfl rfl rfl rfl rfl rfl rfl rfl rfl rfl rfl rfl rfl rfl rfl rfl rfl rfl rfl rfl rfl rfl rfl rfl rfl rfl rfl rfl rfl rfl rfl rfl
        (by kernel_rfl) (by kernel_rfl) (by kernel_rfl) (by kernel_rfl) (by kernel_rfl) (by kernel_rfl) (by kernel_rfl) (by kernel_rfl) (by kernel_rfl) (by kernel_rfl) (by kernel_rfl) (by kernel_rfl) (by kernel_rfl) (by kernel_rfl) (by kernel_rfl) (by kernel_rfl) (by kernel_rfl) (by kernel_rfl) (by kernel_rfl) (by kernel_rfl) (by kernel_rfl) (by kernel_rfl) (by kernel_rfl) (by kernel_rfl) (by kernel_rfl) (by kernel_rfl) (by kernel_rfl) (by kernel_rfl) (by kernel_rfl) (by kernel_rfl) (by kernel_rfl) (by kernel_rfl) (by kernel_rfl) (by kernel_rfl) (by kernel_rfl) (by kernel_rfl) (by kernel_rfl) (by kernel_rfl) (by kernel_rfl) (by kernel_rfl) (by kernel_rfl) (by kernel_rfl) (by kernel_rfl) (by kernel_rfl) (by kernel_rfl) (by kernel_rfl) (by kernel_rfl) (by kernel_rfl) (by kernel_rfl) (by kernel_rfl) (by kernel_rfl) (by kernel_rfl) (by kernel_rfl) (by kernel_rfl) (by kernel_rfl) ?_
      rintro f8 W8 hM8 y0
      simp only [patch_cons, patch_nil, y0]
      simp only [List.setIfInBounds_toArray, List.set_cons_zero, List.set_cons_succ]
      obtain ⟨hBB, hL⟩ := hM8
      have ob_b := (hL _ (List.mem_cons_of_mem _ (List.mem_cons_of_mem _ (List.mem_cons_of_mem _ (List.mem_cons_of_mem _ (List.mem_cons_self ..))))))
      have ob_p := (hL _ (List.mem_cons_of_mem _ (List.mem_cons_of_mem _ (List.mem_cons_of_mem _ (List.mem_cons_self ..)))))
      clear hL y0 oc
      dsimp only at ob_b ob_p
      go_upto_region 13 with fail
      have oc := (((OBs.zero hBB).cons ob_b).cons ob_p).drew
      clear ob_b ob_p hBB
      refine dg13_region (OBs w _) _ _ _ A_a n_a c_a A_b n_b c_b tx tu q1 rfl (by kernel_rfl) (by simp) oc (fun W W1 h hb => h.via hb)
        q2 rfl rfl (fun W h => ⟨(h.2 _ (List.mem_cons_self ..)).1, (h.2 _ (List.mem_cons_self ..)).2.1⟩) (fun W h => (h.2 _ (List.mem_cons_of_mem _ (List.mem_cons_self ..))).2.1) (fun W h => TP.out W h.1 _ _ _ (h.2 _ (List.mem_cons_self ..)).sl) (fun W h => TB.out W h.1 _ _ _ (h.2 _ (List.mem_cons_of_mem _ (List.mem_cons_self ..))).sl)
        rfl rfl rfl rfl rfl rfl rfl rfl
        (by kernel_rfl) (by kernel_rfl) (by kernel_rfl) (by kernel_rfl) (by kernel_rfl) (by kernel_rfl) ?_
      rintro f9 W9 ⟨hBB, hL⟩ y0 y1
      simp only [patch_cons, patch_nil, y0, y1]
      simp only [List.setIfInBounds_toArray, List.set_cons_zero, List.set_cons_succ]
      have ob_p := hL _ (List.mem_cons_self ..)
      have ob_b := hL _ (List.mem_cons_of_mem _ (List.mem_cons_self ..))
      dsimp only at ob_b ob_p
      clear hL y0 y1 oc
      have tk1 : Hid True := trivial
      obtain ⟨g0_p, g1_p, hs_p, gz_p⟩ := id ob_p
      obtain ⟨g0_b, g1_b, hs_b, gz_b⟩ := id ob_b
      go_upto_region 15 with (first
        | (clear tk1; go_at_call 21; (with_reducible refine (CP.out _ _ _ _ _ _ _ hs_p hs_b).mono ?_); rintro e w1 ⟨rfl, hb⟩; replace ob_b := ob_b.via hb; replace ob_p := ob_p.via hb; replace hBB := hBB.trans (hb.mono hBB.size); clear hb; clear g0_p g1_p hs_p gz_p; clear g0_b g1_b hs_b gz_b)
        | fail "no arm")
      rcases Nat.lt_trichotomy va vb with h | h | h
      · obtain rfl : o = -1 := by rw [← ho]; exact cmpI_lt h
        by_cases hl : tx.length = tu.length
        · have hne : (tx == tu) = false := by rw [← htx, ← htu]; exact beq_false_of_ne (fun e => by have := dec_inj e; omega)
          have hls : Op.bytesLess tx tu = true := by rw [← htx, ← htu, dec_less (by rw [htx, htu]; exact hl)]; simp [h]
          go_wp2
          go_ret
          exact ⟨rfl, hBB⟩
        · have hln : (tx.length : Int) < tu.length := by
            rcases Nat.lt_or_ge tx.length tu.length with h2 | h2
            · omega
            · have := dec_lt_of_len (u := vb) (v := va) (by rw [htx, htu]; omega); omega
          have hle : ((tx.length : Int) == tu.length) = false := by simp; omega
          go_wp2
          go_ret
          exact ⟨rfl, hBB⟩
      · subst h
        obtain rfl : tx = tu := by rw [← htx, ← htu]
        obtain rfl : o = 0 := by rw [← ho]; exact cmpI_same _
        have hls : Op.bytesLess tx tx = false := by rw [← htx, dec_less rfl]; simp
        go_wp2
        go_ret
        exact ⟨rfl, hBB⟩
      · obtain rfl : o = 1 := by rw [← ho]; exact cmpI_gt h
        by_cases hl : tx.length = tu.length
        · have hne : (tx == tu) = false := by rw [← htx, ← htu]; exact beq_false_of_ne (fun e => by have := dec_inj e; omega)
          have hls : Op.bytesLess tx tu = false := by rw [← htx, ← htu, dec_less (by rw [htx, htu]; exact hl)]; simp; omega
          go_wp2
          go_ret
          exact ⟨rfl, hBB⟩
        · have hln : ¬ (tx.length : Int) < tu.length := by
            intro h2
            have := dec_lt_of_len (u := va) (v := vb) (by rw [htx, htu]; omega); omega
          have hle : ((tx.length : Int) == tu.length) = false := by simp; omega
          go_wp2
          go_ret
          exact ⟨rfl, hBB⟩
end Go.Proofs.YthnickjbknpmhaaDoor
