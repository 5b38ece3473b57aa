/-
  The contracts of bits.Div32, cmp.Compare, small and word.
-/
import Derived.Test.YthnickjbknpmhaaGreatDoorNumR
namespace Go.Proofs.YthnickjbknpmhaaGreatDoor
open Go.RowKit Go.Shelf

attribute [local go_sem] Oper.semAt_some

theorem ofInt64 (a : Nat) (ha : a < 18446744073709551616) : (BitVec.ofInt 64 (a : Int)).toNat = a := by
  rw [BitVec.ofInt_natCast, BitVec.toNat_ofNat]; exact Nat.mod_eq_of_lt (by omega)
theorem bor64 (a b : Nat) (ha : a < 18446744073709551616) (hb : b < 18446744073709551616) : bits .or .u64 (a : Int) (b : Int) = ((a ||| b : Nat) : Int) := by
  have hx : a ||| b < 2 ^ 64 := Nat.or_lt_two_pow (by omega) (by omega)
  show IntKind.u64.wrap ((BitVec.ofInt 64 (a : Int) ||| BitVec.ofInt 64 (b : Int)).toNat : Int) = _
  rw [BitVec.toNat_or, ofInt64 a ha, ofInt64 b hb, IntKind.wrap_u64]
  omega
theorem join64 (h l : Nat) (hh : h < 4294967296) (hl : l < 4294967296) : bits .or .u64 ((h : Int) * 4294967296) (l : Int) = ((h * 4294967296 + l : Nat) : Int) := by
  have e : (h : Int) * 4294967296 = ((h * 4294967296 : Nat) : Int) := by omega
  rw [e, bor64 _ _ (by omega) (by omega)]
  have := Nat.shiftLeft_add_eq_or_of_lt (i := 32) (b := l) (by omega) h
  rw [Nat.shiftLeft_eq] at this
  simp only [Nat.reducePow] at this
  rw [this]

/-- The quotient and the rest of two digits by one. -/
def dvQ (h l y : Nat) : Nat := (h * 4294967296 + l) / y
def dvR (h l y : Nat) : Nat := (h * 4294967296 + l) % y
theorem dv_spec {h l y : Nat} (hh : h < y) (hl : l < 4294967296) : dvQ h l y * y + dvR h l y = h * 4294967296 + l ∧ dvQ h l y < 4294967296 ∧ dvR h l y < y := by
  unfold dvQ dvR
  refine ⟨by rw [Nat.mul_comm]; exact Nat.div_add_mod _ _, ?_, Nat.mod_lt _ (by omega)⟩
  rw [Nat.div_lt_iff_lt_mul (by omega)]
  have : (h + 1) * 4294967296 ≤ y * 4294967296 := Nat.mul_le_mul_right _ hh
  omega
theorem dv_int {h l y : Nat} (hh : h < y) (hl : l < 4294967296) (hy : y < 4294967296) :
    IntKind.u64.wrap ((bits BinOp.or IntKind.u64 (↑h * 4294967296) ↑l).tdiv ↑y) % 4294967296 = ((dvQ h l y : Nat) : Int) ∧ (bits BinOp.or IntKind.u64 (↑h * 4294967296) ↑l).tmod ↑y % 4294967296 = ((dvR h l y : Nat) : Int) := by
  have s := dv_spec hh hl
  rw [join64 h l (by omega) hl, ← Int.ofNat_tdiv, IntKind.wrap_u64]
  have e : ((h * 4294967296 + l : Nat) : Int).tmod (y : Int) = ((dvR h l y : Nat) : Int) := by
    rw [Int.tmod_eq_emod_of_nonneg (by omega)]; unfold dvR; omega
  rw [e]
  have e2 : (h * 4294967296 + l) / y = dvQ h l y := rfl
  rw [e2]
  omega

set_option maxHeartbeats 400000 in
theorem div32_any (h l y : Nat) (w : World) (hh : h < y) (hl : l < 4294967296) (hy : y < 4294967296) :
    Calls Tryz.prog 70 #[.int .u32 h, .int .u32 l, .int .u32 y] w fun e w' => e = .returned (.tuple #[.int .u32 (dvQ h l y : Nat), .int .u32 (dvR h l y : Nat)]) ∧ ∃ n, w' = w.drewN n := by
  have E := Lib.hid (dv_int hh hl hy)
  have hy0 : ((y : Int) != 0) = true := by simp; omega
  have hd : decide ((y : Int) ≤ (h : Int)) = false := by simp; omega
  go_enter Tryz.func70, Tryz.ntmps70
  go_wp2
  go_quiet (fail)
  go_wp2
  rw [E.out.1, E.out.2]
  go_ret2
  exact ⟨rfl, _, rfl⟩

theorem cmp_lt (a b : Nat) (w : World) (h : a < b) : Calls Tryz.prog 78 #[.int .i64 a, .int .i64 b] w fun e w' => e = .returned (.int .i64 (-1)) ∧ w = w' := by
  go_enter Tryz.func78, Tryz.ntmps78
  go_wp2
  go_ret
  exact ⟨rfl, rfl⟩

theorem heap_kept {W W' : World} {row : Option Nat} {g : Nat} {o : Obj} (h : W.heap[g]? = some o) (hc : o.isCells = true) (hg : W.grownBy W' row) (hr : ∀ r, row = some r → ∃ o : Obj, W.heap[r]? = some o ∧ o.isCells = false) : W'.heap[g]? = some o :=
  (grownBy_keeps_cells hg hr h hc).trans h
theorem others_heap {W W' : World} (h : W'.heap = W.heap) : KeepsOthers W W' := ⟨by rw [h]; exact Nat.le_refl _, fun k o hk _ => by rw [h]; exact hk⟩
theorem DBk.far {w : World} {g T : Nat} {l : List Nat} (h : DBk w g T l) {p : Addr} (hp : g ≠ p.block) (u : Value) : DBk (w.setCell p u) g T l := (Below.heap_setCell w p u g hp).trans h
theorem boxed_far {W : World} {B : Nat} {t : TypeId} {v : Value} (h : Boxed W B t v) {p : Addr} (hp : B ≠ p.block) (u : Value) : Boxed (W.setCell p u) B t v := (Below.heap_setCell W p u B hp).trans h
theorem nval_drop (l : List Nat) (k : Nat) : nval (l.drop k) = dg l k + 4294967296 * nval (l.drop (k + 1)) := by
  rcases Nat.lt_or_ge k l.length with h | h
  · rw [List.drop_eq_getElem_cons h, nval, dg_get h]
  · rw [List.drop_of_length_le h, List.drop_of_length_le (by omega), dg_past h]; rfl
theorem nval_set_drop (o : List Nat) (k d : Nat) (h : k < o.length) : nval ((o.set k d).drop k) = d + 4294967296 * nval (o.drop (k + 1)) := by
  rw [nval_drop, dg_get (by simpa using h), List.getElem_set_self, List.drop_set_of_lt (Nat.lt_succ_self k)]

/-- What holds between two rounds of small: q's block, the rest. -/
def SmI (g b n y : Nat) (l : List Nat) (pre : List {k : Nat // k < n}) (W : World) : Prop :=
  ∃ (r : Nat) (o : List Nat), r < y ∧ DBk W g 40 o ∧ Boxed W b 40 (.int .u32 (r : Nat)) ∧ o.length = n ∧ Dig o ∧ (pre <+: downs n → nval (l.drop (n - pre.length)) = nval (o.drop (n - pre.length)) * y + r)
theorem smI_own (g b n y : Nat) (l : List Nat) : Own (SmI g b n y l) := fun _ _ _ _ ⟨r, o, h1, h2, h3, h4⟩ hg hr => ⟨r, o, h1, heap_kept h2 rfl hg hr, heap_kept h3 rfl hg hr, h4⟩
theorem smI_step {g b n y r : Nat} {l o : List Nat} {pre : List {k : Nat // k < n}} {x : {k : Nat // k < n}} {W : World} (hgb : g ≠ b) (hr : r < y) (hl : Dig l) (h2 : DBk W g 40 o) (h3 : Boxed W b 40 (.int .u32 (r : Nat))) (h4 : o.length = n) (h5 : Dig o)
    (h6 : pre <+: downs n → nval (l.drop (n - pre.length)) = nval (o.drop (n - pre.length)) * y + r) :
    SmI g b n y l (pre ++ [x]) ((W.setCell ⟨g, x.1, none⟩ (.int .u32 (dvQ r (dg l x.1) y : Nat))).setCell ⟨b, 0, none⟩ (.int .u32 (dvR r (dg l x.1) y : Nat))) := by
  have hd := dg_lt hl x.1
  have s := dv_spec hr hd
  refine ⟨_, _, s.2.2, (h2.set _ _).far hgb _, (boxed_far h3 (Ne.symm hgb) _).set _, by simpa using h4, dig_set h5 s.2.1, fun hp => ?_⟩
  obtain ⟨p1, p2, p3⟩ := downs_prefix hp
  have h7 := h6 p1
  have e : n - pre.length = x.1 + 1 := by omega
  rw [e] at h7
  have e2 : n - (pre ++ [x]).length = x.1 := by simp; omega
  rw [e2, nval_drop, nval_set_drop _ _ _ (by rw [h4]; exact x.2), h7]
  have s1 := s.1
  rw [Nat.add_mul, Nat.mul_add, Nat.mul_assoc 4294967296]
  omega

theorem two_far {W : World} {B a b i : Nat} {t : TypeId} {v : Value} (h : Boxed W B t v) (h1 : B ≠ a) (h2 : B ≠ b) (m : Nat) (u u' : Value) : Boxed (((W.drewN m).setCell ⟨a, i, none⟩ u).setCell ⟨b, 0, none⟩ u') B t v :=
  boxed_far (boxed_far (show Boxed (W.drewN m) B t v from h) (p := ⟨a, i, none⟩) h1 u) (p := ⟨b, 0, none⟩) h2 u'
theorem small_kp {n₀ Bs a b i : Nat} {W : World} (h1 : n₀ ≤ a) (h2 : n₀ ≤ b) (h3 : Bs ≠ a) (h4 : Bs ≠ b) (m : Nat) (u u' : Value) : KpD n₀ Bs W (((W.drewN m).setCell ⟨a, i, none⟩ u).setCell ⟨b, 0, none⟩ u') :=
  ⟨((below_drewN (Below.refl _ _) m).setCell (p := ⟨a, i, none⟩) h1 u).setCell (p := ⟨b, 0, none⟩) h2 u', (Below.heap_setCell _ ⟨b, 0, none⟩ u' Bs h4).trans (Below.heap_setCell _ ⟨a, i, none⟩ u Bs h3)⟩
theorem two_others (W : World) (m : Nat) (p q : Addr) (u u' : Value) : KeepsOthers W (((W.drewN m).setCell p u).setCell q u') :=
  ((others_heap (W := W) (W' := W.drewN m) rfl).trans (KeepsOthers.setCell _ p u)).trans (KeepsOthers.setCell _ q u')

/-- small returns the digits of the quotient, and the rest. -/
def RetSmall (v y : Nat) (w : World) (e : Ending) (w' : World) : Prop := ∃ A n c r, e = .returned (.tuple #[.slice A n c, .int .u32 (r : Nat)]) ∧ Hid (r = v % y) ∧ r < y ∧ Sl w' w'.heap.size A n c (digs (v / y)) ∧ Below w.heap.size w w'

set_option maxRecDepth 100000 in
set_option maxHeartbeats 2000000 in
theorem small_any (A : Option Addr) (n c B y : Nat) (l : List Nat) (w : World) (h : Sl w B A n c l) (hB : B ≤ w.heap.size) (hn : n ≤ 1000) (hy : 0 < y) (hy2 : y < 4294967296) :
    Calls Tryz.prog 45 #[.slice A n c, .int .u32 y] w (RetSmall (nval l) y w) := by
  have H := Lib.hid (h.more hB)
  have HL := Lib.hid h.len
  clear h
  have hmk := run_make_mag n (by omega)
  refine (callsIn_wide (n := 3)).1 ?_
  refine callsIn_of_wp_marks Tryz.func45 rfl trivial ?_ rfl
  simp only [Tryz.ntmps45, List.size_toArray, List.length_cons, List.length_nil, Nat.reduceAdd, Nat.reduceSub, Array.replicate_succ, Array.replicate_zero, List.push_toArray, List.append_toArray, List.nil_append, List.cons_append]
  gi_wp2_with (refine ⟨trivial, ?_⟩; gi_at_call 53; refine (down_in _ _ trivial rfl _ _ _ _).mono ?_; rintro e w' ⟨rfl, rfl⟩)
  clear hmk
  have b0 := Boxed.new w 40 (.int .u32 (y : Nat))
  have b1 := DBk.new (w.alloc (.cells #[.int .u32 (y : Nat)] 40)) 40 n
  rw [World.size_alloc] at b1
  have b2 := Boxed.new ((w.alloc (.cells #[.int .u32 (y : Nat)] 40)).alloc (.cells (madeCells #[.int .u32 0] n) 40)) 50 (.slice (some ⟨w.heap.size + 1, 0, none⟩) n n)
  rw [World.size_alloc, World.size_alloc] at b2
  have b3 := Boxed.new (((w.alloc (.cells #[.int .u32 (y : Nat)] 40)).alloc (.cells (madeCells #[.int .u32 0] n) 40)).alloc (.cells #[.slice (some ⟨w.heap.size + 1, 0, none⟩) n n] 50)) 40 (.int .u32 0)
  rw [World.size_alloc, World.size_alloc, World.size_alloc] at b3
  have b4 := Boxed.new ((((w.alloc (.cells #[.int .u32 (y : Nat)] 40)).alloc (.cells (madeCells #[.int .u32 0] n) 40)).alloc (.cells #[.slice (some ⟨w.heap.size + 1, 0, none⟩) n n] 50)).alloc (.cells #[.int .u32 0] 40)) 50 (.slice A n c)
  rw [World.size_alloc, World.size_alloc, World.size_alloc, World.size_alloc] at b4
  have hB0 : Below w.heap.size w (((((w.alloc (.cells #[.int .u32 (y : Nat)] 40)).alloc (.cells (madeCells #[.int .u32 0] n) 40)).alloc (.cells #[.slice (some ⟨w.heap.size + 1, 0, none⟩) n n] 50)).alloc (.cells #[.int .u32 0] 40)).alloc (.cells #[.slice A n c] 50)) := by go_grown
  have c0 := (((b0.alloc (.cells (madeCells #[.int .u32 0] n) 40)).alloc (.cells #[.slice (some ⟨w.heap.size + 1, 0, none⟩) n n] 50)).alloc (.cells #[.int .u32 0] 40)).alloc (.cells #[.slice A n c] 50)
  have c1 := ((b1.alloc (.cells #[.slice (some ⟨w.heap.size + 1, 0, none⟩) n n] 50)).alloc (.cells #[.int .u32 0] 40)).alloc (.cells #[.slice A n c] 50)
  have c2 := (b2.alloc (.cells #[.int .u32 0] 40)).alloc (.cells #[.slice A n c] 50)
  have c3 := b3.alloc (.cells #[.slice A n c] 50)
  clear b0 b1 b2 b3
  have hz : (((((w.alloc (.cells #[.int .u32 (y : Nat)] 40)).alloc (.cells (madeCells #[.int .u32 0] n) 40)).alloc (.cells #[.slice (some ⟨w.heap.size + 1, 0, none⟩) n n] 50)).alloc (.cells #[.int .u32 0] 40)).alloc (.cells #[.slice A n c] 50)).heap.size = w.heap.size + 1 + 1 + 1 + 1 + 1 := by simp
  obtain ⟨W0, hW0⟩ : ∃ W0, (((((w.alloc (.cells #[.int .u32 (y : Nat)] 40)).alloc (.cells (madeCells #[.int .u32 0] n) 40)).alloc (.cells #[.slice (some ⟨w.heap.size + 1, 0, none⟩) n n] 50)).alloc (.cells #[.int .u32 0] 40)).alloc (.cells #[.slice A n c] 50)) = W0 := ⟨_, rfl⟩
  rw [hW0] at hB0 b4 c0 c1 c2 c3 hz ⊢
  clear hW0
  refine wpIn_rangeFunc_ownF rfl (by omega) (gf := 81) (lb := #[.pointer (some ⟨w.heap.size + 1 + 1 + 1 + 1, 0, none⟩)]) rfl trivial (enters_of Tryz.func81 (by kernel_rfl) rfl)
    (down_stops Fence.wide (3 - 1) trivial rfl (by omega) (w.heap.size + 1 + 1 + 1 + 1) w.heap.size A n c l W0 b4 (by omega) (H.out.below hB0)) kpD_t (kpD_b (by omega) (by omega)) (Below.refl _ _) (fun _ => rfl)
    (fun pre W => ((Boxed W w.heap.size 40 (.int .u32 (y : Nat)) ∧ Boxed W (w.heap.size + 1 + 1) 50 (.slice (some ⟨w.heap.size + 1, 0, none⟩) n n)) ∧ SmI (w.heap.size + 1) (w.heap.size + 1 + 1 + 1) n y l pre W) ∧ Below w.heap.size w W)
    (fun _ _ _ => False)
    (OwnFrom.and (Own.from (fun _ _ _ _ hs hg hr => ⟨⟨heap_kept hs.1.1 rfl hg hr, heap_kept hs.1.2 rfl hg hr⟩, smI_own _ _ _ _ _ _ _ _ _ hs.2 hg hr⟩) _) (ownFrom_below (Nat.le_refl _) (by omega)))
    (fun _ _ _ _ _ hs _ _ => hs)
    ⟨⟨⟨c0, c2⟩, ⟨0, List.replicate n 0, hy, c1, c3, by simp, dig_zeros n, fun _ => by have := HL.out; simp [nval, ← this]⟩⟩, hB0⟩
    (fun x => { tmps := #[.slice A n c, .int .u32 (y : Nat), undef, .pointer (some ⟨w.heap.size, 0, none⟩), .slice none 0 0, .int .u32 0, .pointer (some ⟨w.heap.size + 1 + 1, 0, none⟩), .pointer (some ⟨w.heap.size + 1 + 1 + 1, 0, none⟩), .int .i64 (x.1 : Nat), .int .u32 (dg l x.1 : Nat), .slice A n c, .int .i64 (n : Nat), .slice (some ⟨w.heap.size + 1, 0, none⟩) n n, .slice A n c, .func (.func 81) #[] #[.pointer (some ⟨w.heap.size + 1 + 1 + 1 + 1, 0, none⟩)], .int .i64 (x.1 : Nat), .int .u32 (dg l x.1 : Nat), undef, undef, undef, undef, undef, undef, undef, undef, undef, undef, undef, undef, undef], defers := [] }) ?assign ?body ?done ?stop
  case assign =>
    intro l x W K hK
    gi_wp2
    exact hK
  case body =>
    rintro ll pre x W ⟨⟨⟨c0, c2⟩, ⟨r, o, h1, h2, h3, h4, h5, h6⟩⟩, hBW⟩ _
    have hx := x.2
    have e0 := c0.cell
    have e2 := c2.cell
    have e3 := h3.cell
    have f3 := h3.frozen
    have e1 := h2.cell (k := x.1) (by omega)
    have f1 := h2.frozen x.1
    have hdl := dg_lt H.out.dig x.1
    have hz1 := h2.lt
    have hz3 := h3.lt
    have HS := Lib.hid (fun m => @smI_step _ _ n y r l o pre x (W.drewN m) (by omega) h1 H.out.dig h2 h3 h4 h5 h6)
    have KD := Lib.hid (fun m => small_kp (n₀ := w.heap.size) (Bs := w.heap.size + 1 + 1 + 1 + 1) (a := w.heap.size + 1) (b := w.heap.size + 1 + 1 + 1) (W := W) (i := x.1) (by omega) (by omega) (by omega) (by omega) m (.int .u32 (dvQ r (dg l x.1) y : Nat)) (.int .u32 (dvR r (dg l x.1) y : Nat)))
    have BW := Lib.hid (fun m => hBW.trans (KD.out m).1)
    have C0 := Lib.hid (fun m => two_far (i := x.1) c0 (a := w.heap.size + 1) (b := w.heap.size + 1 + 1 + 1) (by omega) (by omega) m (.int .u32 (dvQ r (dg l x.1) y : Nat)) (.int .u32 (dvR r (dg l x.1) y : Nat)))
    have C2 := Lib.hid (fun m => two_far (i := x.1) c2 (a := w.heap.size + 1) (b := w.heap.size + 1 + 1 + 1) (by omega) (by omega) m (.int .u32 (dvQ r (dg l x.1) y : Nat)) (.int .u32 (dvR r (dg l x.1) y : Nat)))
    have hmx : Tryz.prog.follows .mixedOrders = true := by kernel_rfl
    clear h2 h3 h4 h5 h6
    gi_wp2
    refine region_round hmx rfl ?_
    refine wpAnyIn_take (i := 1) (v := ?_) rfl rfl (by kernel_rfl) (by kernel_rfl) (by kernel_rfl) (fun _ _ _ h => h) ⟨Or.inl ⟨by rfl, ?_⟩, fun _ => rfl⟩ ?_
    rotate_left 1
    · (intro w; go_simp; try (with_reducible rfl))
    refine wpAnyIn_take (i := 3) (v := ?_) rfl rfl (by kernel_rfl) (by kernel_rfl) (by kernel_rfl) (fun _ _ _ h => h) ⟨Or.inl ⟨by rfl, ?_⟩, fun _ => rfl⟩ ?_
    rotate_left 1
    · (intro w; go_simp; try (with_reducible rfl))
    refine wpAnyIn_ready (rs := [0, 2, 4]) (by kernel_rfl) (by simp) ?_
    refine AllReadyIn.cons rfl (fun K hK => ?_) (AllReadyIn.cons rfl (fun K hK => ?_) (AllReadyIn.cons rfl (fun K hK => ?_) AllReadyIn.nil))
    · go_simp; refine hK _ _ ?_; clear hK K
      refine wpAnyIn_ready (rs := [2, 4]) (by kernel_rfl) (by simp) ?_
      refine AllReadyIn.cons rfl (fun K hK => ?_) (AllReadyIn.cons rfl (fun K hK => ?_) AllReadyIn.nil)
      · go_simp; refine hK _ _ ?_; clear hK K
        refine wpAnyIn_ready (rs := [4]) (by kernel_rfl) (by simp) ?_
        refine AllReadyIn.cons rfl (fun K hK => ?_) AllReadyIn.nil
        go_simp; refine hK _ _ ?_; clear hK K
        refine wpAnyIn_ready (rs := [5]) (by kernel_rfl) (by simp) ?_
        refine AllReadyIn.cons rfl (fun K hK => ?_) AllReadyIn.nil
        go_simp; refine ⟨trivial, ?_⟩; gi_at_call 70; refine (callsIn_wide.2 (div32_any r (dg l x.1) y _ h1 hdl hy2)).mono ?_; rintro e w' ⟨rfl, m, rfl⟩; refine hK _ _ ?_; clear hK K
        refine wpAnyIn_take (i := 6) (v := ?_) rfl rfl (by kernel_rfl) (by kernel_rfl) (by kernel_rfl) (fun _ _ _ h => h) ⟨Or.inl ⟨by rfl, ?_⟩, fun _ => rfl⟩ ?_
        rotate_left 1
        · (intro w; go_simp; try (with_reducible rfl))
        refine wpAnyIn_take (i := 7) (v := ?_) rfl rfl (by kernel_rfl) (by kernel_rfl) (by kernel_rfl) (fun _ _ _ h => h) ⟨Or.inl ⟨by rfl, ?_⟩, fun _ => rfl⟩ ?_
        rotate_left 1
        · (intro w; go_simp; try (with_reducible rfl))
        refine wpAnyIn_take (i := 8) (v := ?_) rfl rfl (by kernel_rfl) (by kernel_rfl) (by kernel_rfl) (fun _ _ _ h => h) ⟨Or.inl ⟨by rfl, ?_⟩, fun _ => rfl⟩ ?_
        rotate_left 1
        · (intro w; go_simp; try (with_reducible rfl))
        refine wpAnyIn_take (i := 9) (v := ?_) rfl rfl (by kernel_rfl) (by kernel_rfl) (by kernel_rfl) (fun _ _ _ h => h) ⟨Or.inl ⟨by rfl, ?_⟩, fun _ => rfl⟩ ?_
        rotate_left 1
        · (intro w; go_simp; try (with_reducible rfl))
        refine wpAnyIn_ready (rs := [10]) (by kernel_rfl) (by simp) ?_
        refine AllReadyIn.cons rfl (fun K hK => ?_) AllReadyIn.nil
        go_simp; refine hK _ _ ?_; clear hK K
        refine wpAnyIn_ready (rs := [11]) (by kernel_rfl) (by simp) ?_
        refine AllReadyIn.cons rfl (fun K hK => ?_) AllReadyIn.nil
        go_simp; refine hK _ _ ?_; clear hK K
        refine wpAnyIn_done (by kernel_rfl) ?_ _
        gi_wp2
        exact ⟨two_others _ _ _ _ _ _, KD.out _, ⟨⟨C0.out _, C2.out _⟩, HS.out _⟩, BW.out _⟩
      · go_simp; refine hK _ _ ?_; clear hK K
        refine wpAnyIn_ready (rs := [2]) (by kernel_rfl) (by simp) ?_
        refine AllReadyIn.cons rfl (fun K hK => ?_) AllReadyIn.nil
        go_simp; refine hK _ _ ?_; clear hK K
        refine wpAnyIn_ready (rs := [5]) (by kernel_rfl) (by simp) ?_
        refine AllReadyIn.cons rfl (fun K hK => ?_) AllReadyIn.nil
        go_simp; refine ⟨trivial, ?_⟩; gi_at_call 70; refine (callsIn_wide.2 (div32_any r (dg l x.1) y _ h1 hdl hy2)).mono ?_; rintro e w' ⟨rfl, m, rfl⟩; refine hK _ _ ?_; clear hK K
        refine wpAnyIn_take (i := 6) (v := ?_) rfl rfl (by kernel_rfl) (by kernel_rfl) (by kernel_rfl) (fun _ _ _ h => h) ⟨Or.inl ⟨by rfl, ?_⟩, fun _ => rfl⟩ ?_
        rotate_left 1
        · (intro w; go_simp; try (with_reducible rfl))
        refine wpAnyIn_take (i := 7) (v := ?_) rfl rfl (by kernel_rfl) (by kernel_rfl) (by kernel_rfl) (fun _ _ _ h => h) ⟨Or.inl ⟨by rfl, ?_⟩, fun _ => rfl⟩ ?_
        rotate_left 1
        · (intro w; go_simp; try (with_reducible rfl))
        refine wpAnyIn_take (i := 8) (v := ?_) rfl rfl (by kernel_rfl) (by kernel_rfl) (by kernel_rfl) (fun _ _ _ h => h) ⟨Or.inl ⟨by rfl, ?_⟩, fun _ => rfl⟩ ?_
        rotate_left 1
        · (intro w; go_simp; try (with_reducible rfl))
        refine wpAnyIn_take (i := 9) (v := ?_) rfl rfl (by kernel_rfl) (by kernel_rfl) (by kernel_rfl) (fun _ _ _ h => h) ⟨Or.inl ⟨by rfl, ?_⟩, fun _ => rfl⟩ ?_
        rotate_left 1
        · (intro w; go_simp; try (with_reducible rfl))
        refine wpAnyIn_ready (rs := [10]) (by kernel_rfl) (by simp) ?_
        refine AllReadyIn.cons rfl (fun K hK => ?_) AllReadyIn.nil
        go_simp; refine hK _ _ ?_; clear hK K
        refine wpAnyIn_ready (rs := [11]) (by kernel_rfl) (by simp) ?_
        refine AllReadyIn.cons rfl (fun K hK => ?_) AllReadyIn.nil
        go_simp; refine hK _ _ ?_; clear hK K
        refine wpAnyIn_done (by kernel_rfl) ?_ _
        gi_wp2
        exact ⟨two_others _ _ _ _ _ _, KD.out _, ⟨⟨C0.out _, C2.out _⟩, HS.out _⟩, BW.out _⟩
    · go_simp; refine hK _ _ ?_; clear hK K
      refine wpAnyIn_ready (rs := [0, 4]) (by kernel_rfl) (by simp) ?_
      refine AllReadyIn.cons rfl (fun K hK => ?_) (AllReadyIn.cons rfl (fun K hK => ?_) AllReadyIn.nil)
      · go_simp; refine hK _ _ ?_; clear hK K
        refine wpAnyIn_ready (rs := [4]) (by kernel_rfl) (by simp) ?_
        refine AllReadyIn.cons rfl (fun K hK => ?_) AllReadyIn.nil
        go_simp; refine hK _ _ ?_; clear hK K
        refine wpAnyIn_ready (rs := [5]) (by kernel_rfl) (by simp) ?_
        refine AllReadyIn.cons rfl (fun K hK => ?_) AllReadyIn.nil
        go_simp; refine ⟨trivial, ?_⟩; gi_at_call 70; refine (callsIn_wide.2 (div32_any r (dg l x.1) y _ h1 hdl hy2)).mono ?_; rintro e w' ⟨rfl, m, rfl⟩; refine hK _ _ ?_; clear hK K
        refine wpAnyIn_take (i := 6) (v := ?_) rfl rfl (by kernel_rfl) (by kernel_rfl) (by kernel_rfl) (fun _ _ _ h => h) ⟨Or.inl ⟨by rfl, ?_⟩, fun _ => rfl⟩ ?_
        rotate_left 1
        · (intro w; go_simp; try (with_reducible rfl))
        refine wpAnyIn_take (i := 7) (v := ?_) rfl rfl (by kernel_rfl) (by kernel_rfl) (by kernel_rfl) (fun _ _ _ h => h) ⟨Or.inl ⟨by rfl, ?_⟩, fun _ => rfl⟩ ?_
        rotate_left 1
        · (intro w; go_simp; try (with_reducible rfl))
        refine wpAnyIn_take (i := 8) (v := ?_) rfl rfl (by kernel_rfl) (by kernel_rfl) (by kernel_rfl) (fun _ _ _ h => h) ⟨Or.inl ⟨by rfl, ?_⟩, fun _ => rfl⟩ ?_
        rotate_left 1
        · (intro w; go_simp; try (with_reducible rfl))
        refine wpAnyIn_take (i := 9) (v := ?_) rfl rfl (by kernel_rfl) (by kernel_rfl) (by kernel_rfl) (fun _ _ _ h => h) ⟨Or.inl ⟨by rfl, ?_⟩, fun _ => rfl⟩ ?_
        rotate_left 1
        · (intro w; go_simp; try (with_reducible rfl))
        refine wpAnyIn_ready (rs := [10]) (by kernel_rfl) (by simp) ?_
        refine AllReadyIn.cons rfl (fun K hK => ?_) AllReadyIn.nil
        go_simp; refine hK _ _ ?_; clear hK K
        refine wpAnyIn_ready (rs := [11]) (by kernel_rfl) (by simp) ?_
        refine AllReadyIn.cons rfl (fun K hK => ?_) AllReadyIn.nil
        go_simp; refine hK _ _ ?_; clear hK K
        refine wpAnyIn_done (by kernel_rfl) ?_ _
        gi_wp2
        exact ⟨two_others _ _ _ _ _ _, KD.out _, ⟨⟨C0.out _, C2.out _⟩, HS.out _⟩, BW.out _⟩
      · go_simp; refine hK _ _ ?_; clear hK K
        refine wpAnyIn_ready (rs := [0, 5]) (by kernel_rfl) (by simp) ?_
        refine AllReadyIn.cons rfl (fun K hK => ?_) (AllReadyIn.cons rfl (fun K hK => ?_) AllReadyIn.nil)
        · go_simp; refine hK _ _ ?_; clear hK K
          refine wpAnyIn_ready (rs := [5]) (by kernel_rfl) (by simp) ?_
          refine AllReadyIn.cons rfl (fun K hK => ?_) AllReadyIn.nil
          go_simp; refine ⟨trivial, ?_⟩; gi_at_call 70; refine (callsIn_wide.2 (div32_any r (dg l x.1) y _ h1 hdl hy2)).mono ?_; rintro e w' ⟨rfl, m, rfl⟩; refine hK _ _ ?_; clear hK K
          refine wpAnyIn_take (i := 6) (v := ?_) rfl rfl (by kernel_rfl) (by kernel_rfl) (by kernel_rfl) (fun _ _ _ h => h) ⟨Or.inl ⟨by rfl, ?_⟩, fun _ => rfl⟩ ?_
          rotate_left 1
          · (intro w; go_simp; try (with_reducible rfl))
          refine wpAnyIn_take (i := 7) (v := ?_) rfl rfl (by kernel_rfl) (by kernel_rfl) (by kernel_rfl) (fun _ _ _ h => h) ⟨Or.inl ⟨by rfl, ?_⟩, fun _ => rfl⟩ ?_
          rotate_left 1
          · (intro w; go_simp; try (with_reducible rfl))
          refine wpAnyIn_take (i := 8) (v := ?_) rfl rfl (by kernel_rfl) (by kernel_rfl) (by kernel_rfl) (fun _ _ _ h => h) ⟨Or.inl ⟨by rfl, ?_⟩, fun _ => rfl⟩ ?_
          rotate_left 1
          · (intro w; go_simp; try (with_reducible rfl))
          refine wpAnyIn_take (i := 9) (v := ?_) rfl rfl (by kernel_rfl) (by kernel_rfl) (by kernel_rfl) (fun _ _ _ h => h) ⟨Or.inl ⟨by rfl, ?_⟩, fun _ => rfl⟩ ?_
          rotate_left 1
          · (intro w; go_simp; try (with_reducible rfl))
          refine wpAnyIn_ready (rs := [10]) (by kernel_rfl) (by simp) ?_
          refine AllReadyIn.cons rfl (fun K hK => ?_) AllReadyIn.nil
          go_simp; refine hK _ _ ?_; clear hK K
          refine wpAnyIn_ready (rs := [11]) (by kernel_rfl) (by simp) ?_
          refine AllReadyIn.cons rfl (fun K hK => ?_) AllReadyIn.nil
          go_simp; refine hK _ _ ?_; clear hK K
          refine wpAnyIn_done (by kernel_rfl) ?_ _
          gi_wp2
          exact ⟨two_others _ _ _ _ _ _, KD.out _, ⟨⟨C0.out _, C2.out _⟩, HS.out _⟩, BW.out _⟩
        · go_simp; refine ⟨trivial, ?_⟩; gi_at_call 70; refine (callsIn_wide.2 (div32_any r (dg l x.1) y _ h1 hdl hy2)).mono ?_; rintro e w' ⟨rfl, m, rfl⟩; refine hK _ _ ?_; clear hK K
          refine wpAnyIn_take (i := 6) (v := ?_) rfl rfl (by kernel_rfl) (by kernel_rfl) (by kernel_rfl) (fun _ _ _ h => h) ⟨Or.inl ⟨by rfl, ?_⟩, fun _ => rfl⟩ ?_
          rotate_left 1
          · (intro w; go_simp; try (with_reducible rfl))
          refine wpAnyIn_take (i := 7) (v := ?_) rfl rfl (by kernel_rfl) (by kernel_rfl) (by kernel_rfl) (fun _ _ _ h => h) ⟨Or.inl ⟨by rfl, ?_⟩, fun _ => rfl⟩ ?_
          rotate_left 1
          · (intro w; go_simp; try (with_reducible rfl))
          refine wpAnyIn_take (i := 8) (v := ?_) rfl rfl (by kernel_rfl) (by kernel_rfl) (by kernel_rfl) (fun _ _ _ h => h) ⟨Or.inl ⟨by rfl, ?_⟩, fun _ => rfl⟩ ?_
          rotate_left 1
          · (intro w; go_simp; try (with_reducible rfl))
          refine wpAnyIn_ready (rs := [0]) (by kernel_rfl) (by simp) ?_
          refine AllReadyIn.cons rfl (fun K hK => ?_) AllReadyIn.nil
          go_simp; refine hK _ _ ?_; clear hK K
          refine wpAnyIn_take (i := 9) (v := ?_) rfl rfl (by kernel_rfl) (by kernel_rfl) (by kernel_rfl) (fun _ _ _ h => h) ⟨Or.inl ⟨by rfl, ?_⟩, fun _ => rfl⟩ ?_
          rotate_left 1
          · (intro w; go_simp; try (with_reducible rfl))
          refine wpAnyIn_ready (rs := [10]) (by kernel_rfl) (by simp) ?_
          refine AllReadyIn.cons rfl (fun K hK => ?_) AllReadyIn.nil
          go_simp; refine hK _ _ ?_; clear hK K
          refine wpAnyIn_ready (rs := [11]) (by kernel_rfl) (by simp) ?_
          refine AllReadyIn.cons rfl (fun K hK => ?_) AllReadyIn.nil
          go_simp; refine hK _ _ ?_; clear hK K
          refine wpAnyIn_done (by kernel_rfl) ?_ _
          gi_wp2
          exact ⟨two_others _ _ _ _ _ _, KD.out _, ⟨⟨C0.out _, C2.out _⟩, HS.out _⟩, BW.out _⟩
    · go_simp; refine hK _ _ ?_; clear hK K
      refine wpAnyIn_ready (rs := [0, 2]) (by kernel_rfl) (by simp) ?_
      refine AllReadyIn.cons rfl (fun K hK => ?_) (AllReadyIn.cons rfl (fun K hK => ?_) AllReadyIn.nil)
      · go_simp; refine hK _ _ ?_; clear hK K
        refine wpAnyIn_ready (rs := [2]) (by kernel_rfl) (by simp) ?_
        refine AllReadyIn.cons rfl (fun K hK => ?_) AllReadyIn.nil
        go_simp; refine hK _ _ ?_; clear hK K
        refine wpAnyIn_ready (rs := [5]) (by kernel_rfl) (by simp) ?_
        refine AllReadyIn.cons rfl (fun K hK => ?_) AllReadyIn.nil
        go_simp; refine ⟨trivial, ?_⟩; gi_at_call 70; refine (callsIn_wide.2 (div32_any r (dg l x.1) y _ h1 hdl hy2)).mono ?_; rintro e w' ⟨rfl, m, rfl⟩; refine hK _ _ ?_; clear hK K
        refine wpAnyIn_take (i := 6) (v := ?_) rfl rfl (by kernel_rfl) (by kernel_rfl) (by kernel_rfl) (fun _ _ _ h => h) ⟨Or.inl ⟨by rfl, ?_⟩, fun _ => rfl⟩ ?_
        rotate_left 1
        · (intro w; go_simp; try (with_reducible rfl))
        refine wpAnyIn_take (i := 7) (v := ?_) rfl rfl (by kernel_rfl) (by kernel_rfl) (by kernel_rfl) (fun _ _ _ h => h) ⟨Or.inl ⟨by rfl, ?_⟩, fun _ => rfl⟩ ?_
        rotate_left 1
        · (intro w; go_simp; try (with_reducible rfl))
        refine wpAnyIn_take (i := 8) (v := ?_) rfl rfl (by kernel_rfl) (by kernel_rfl) (by kernel_rfl) (fun _ _ _ h => h) ⟨Or.inl ⟨by rfl, ?_⟩, fun _ => rfl⟩ ?_
        rotate_left 1
        · (intro w; go_simp; try (with_reducible rfl))
        refine wpAnyIn_take (i := 9) (v := ?_) rfl rfl (by kernel_rfl) (by kernel_rfl) (by kernel_rfl) (fun _ _ _ h => h) ⟨Or.inl ⟨by rfl, ?_⟩, fun _ => rfl⟩ ?_
        rotate_left 1
        · (intro w; go_simp; try (with_reducible rfl))
        refine wpAnyIn_ready (rs := [10]) (by kernel_rfl) (by simp) ?_
        refine AllReadyIn.cons rfl (fun K hK => ?_) AllReadyIn.nil
        go_simp; refine hK _ _ ?_; clear hK K
        refine wpAnyIn_ready (rs := [11]) (by kernel_rfl) (by simp) ?_
        refine AllReadyIn.cons rfl (fun K hK => ?_) AllReadyIn.nil
        go_simp; refine hK _ _ ?_; clear hK K
        refine wpAnyIn_done (by kernel_rfl) ?_ _
        gi_wp2
        exact ⟨two_others _ _ _ _ _ _, KD.out _, ⟨⟨C0.out _, C2.out _⟩, HS.out _⟩, BW.out _⟩
      · go_simp; refine hK _ _ ?_; clear hK K
        refine wpAnyIn_ready (rs := [0, 5]) (by kernel_rfl) (by simp) ?_
        refine AllReadyIn.cons rfl (fun K hK => ?_) (AllReadyIn.cons rfl (fun K hK => ?_) AllReadyIn.nil)
        · go_simp; refine hK _ _ ?_; clear hK K
          refine wpAnyIn_ready (rs := [5]) (by kernel_rfl) (by simp) ?_
          refine AllReadyIn.cons rfl (fun K hK => ?_) AllReadyIn.nil
          go_simp; refine ⟨trivial, ?_⟩; gi_at_call 70; refine (callsIn_wide.2 (div32_any r (dg l x.1) y _ h1 hdl hy2)).mono ?_; rintro e w' ⟨rfl, m, rfl⟩; refine hK _ _ ?_; clear hK K
          refine wpAnyIn_take (i := 6) (v := ?_) rfl rfl (by kernel_rfl) (by kernel_rfl) (by kernel_rfl) (fun _ _ _ h => h) ⟨Or.inl ⟨by rfl, ?_⟩, fun _ => rfl⟩ ?_
          rotate_left 1
          · (intro w; go_simp; try (with_reducible rfl))
          refine wpAnyIn_take (i := 7) (v := ?_) rfl rfl (by kernel_rfl) (by kernel_rfl) (by kernel_rfl) (fun _ _ _ h => h) ⟨Or.inl ⟨by rfl, ?_⟩, fun _ => rfl⟩ ?_
          rotate_left 1
          · (intro w; go_simp; try (with_reducible rfl))
          refine wpAnyIn_take (i := 8) (v := ?_) rfl rfl (by kernel_rfl) (by kernel_rfl) (by kernel_rfl) (fun _ _ _ h => h) ⟨Or.inl ⟨by rfl, ?_⟩, fun _ => rfl⟩ ?_
          rotate_left 1
          · (intro w; go_simp; try (with_reducible rfl))
          refine wpAnyIn_take (i := 9) (v := ?_) rfl rfl (by kernel_rfl) (by kernel_rfl) (by kernel_rfl) (fun _ _ _ h => h) ⟨Or.inl ⟨by rfl, ?_⟩, fun _ => rfl⟩ ?_
          rotate_left 1
          · (intro w; go_simp; try (with_reducible rfl))
          refine wpAnyIn_ready (rs := [10]) (by kernel_rfl) (by simp) ?_
          refine AllReadyIn.cons rfl (fun K hK => ?_) AllReadyIn.nil
          go_simp; refine hK _ _ ?_; clear hK K
          refine wpAnyIn_ready (rs := [11]) (by kernel_rfl) (by simp) ?_
          refine AllReadyIn.cons rfl (fun K hK => ?_) AllReadyIn.nil
          go_simp; refine hK _ _ ?_; clear hK K
          refine wpAnyIn_done (by kernel_rfl) ?_ _
          gi_wp2
          exact ⟨two_others _ _ _ _ _ _, KD.out _, ⟨⟨C0.out _, C2.out _⟩, HS.out _⟩, BW.out _⟩
        · go_simp; refine ⟨trivial, ?_⟩; gi_at_call 70; refine (callsIn_wide.2 (div32_any r (dg l x.1) y _ h1 hdl hy2)).mono ?_; rintro e w' ⟨rfl, m, rfl⟩; refine hK _ _ ?_; clear hK K
          refine wpAnyIn_take (i := 6) (v := ?_) rfl rfl (by kernel_rfl) (by kernel_rfl) (by kernel_rfl) (fun _ _ _ h => h) ⟨Or.inl ⟨by rfl, ?_⟩, fun _ => rfl⟩ ?_
          rotate_left 1
          · (intro w; go_simp; try (with_reducible rfl))
          refine wpAnyIn_take (i := 7) (v := ?_) rfl rfl (by kernel_rfl) (by kernel_rfl) (by kernel_rfl) (fun _ _ _ h => h) ⟨Or.inl ⟨by rfl, ?_⟩, fun _ => rfl⟩ ?_
          rotate_left 1
          · (intro w; go_simp; try (with_reducible rfl))
          refine wpAnyIn_take (i := 8) (v := ?_) rfl rfl (by kernel_rfl) (by kernel_rfl) (by kernel_rfl) (fun _ _ _ h => h) ⟨Or.inl ⟨by rfl, ?_⟩, fun _ => rfl⟩ ?_
          rotate_left 1
          · (intro w; go_simp; try (with_reducible rfl))
          refine wpAnyIn_ready (rs := [0]) (by kernel_rfl) (by simp) ?_
          refine AllReadyIn.cons rfl (fun K hK => ?_) AllReadyIn.nil
          go_simp; refine hK _ _ ?_; clear hK K
          refine wpAnyIn_take (i := 9) (v := ?_) rfl rfl (by kernel_rfl) (by kernel_rfl) (by kernel_rfl) (fun _ _ _ h => h) ⟨Or.inl ⟨by rfl, ?_⟩, fun _ => rfl⟩ ?_
          rotate_left 1
          · (intro w; go_simp; try (with_reducible rfl))
          refine wpAnyIn_ready (rs := [10]) (by kernel_rfl) (by simp) ?_
          refine AllReadyIn.cons rfl (fun K hK => ?_) AllReadyIn.nil
          go_simp; refine hK _ _ ?_; clear hK K
          refine wpAnyIn_ready (rs := [11]) (by kernel_rfl) (by simp) ?_
          refine AllReadyIn.cons rfl (fun K hK => ?_) AllReadyIn.nil
          go_simp; refine hK _ _ ?_; clear hK K
          refine wpAnyIn_done (by kernel_rfl) ?_ _
          gi_wp2
          exact ⟨two_others _ _ _ _ _ _, KD.out _, ⟨⟨C0.out _, C2.out _⟩, HS.out _⟩, BW.out _⟩
  case done =>
    rintro D ys W hD rfl ⟨⟨⟨c0, c2⟩, ⟨r, o, h1, h2, h3, h4, h5, h6⟩⟩, hBW⟩ hK
    have e2 := c2.cell
    have e3 := h3.cell
    have hv : nval l = nval o * y + r := by have := h6 (List.prefix_refl _); rwa [downs_length, Nat.sub_self] at this
    have hq : nval o = nval l / y := by rw [hv, Nat.add_comm, Nat.add_mul_div_right _ _ hy, Nat.div_eq_of_lt h1, Nat.zero_add]
    have hr : r = nval l % y := by rw [hv, Nat.add_comm, Nat.add_mul_mod_self_right, Nat.mod_eq_of_lt h1]
    have hsl := h2.sl h5 (B := w.heap.size + 1 + 1) (by omega) (by omega)
    rw [h4] at hsl
    have HS := Lib.hid hsl
    have HV := Lib.hid (hsl.val hq)
    have HR := Lib.hid hr
    clear hv hq hr hsl h2 h6 h3 c0 c2 h4
    gi_wp2
    refine wpIn_wide.2 ?_
    go_quiet ((go_at_call 50; exact quiet_left (trim_any _ _ _ _ _ _ HS.out.1 HS.out.2.1 HS.out.2.2)))
    gi_wp2
    have hK' : (W.drewN nq).heap[D]? = some (.deferred (some [])) := hK
    have hBD := belowK_b (n₀ := w.heap.size + 1 + 1) (w := W0) (by omega) (W.drewN nq) D _ (.deferred none) hD hK' rfl rfl
    refine ⟨by simp, .inl ⟨_, _, rfl, run_takeDeferred hK', ?_⟩⟩
    refine ⟨_, results_tmp2 rfl _ _ _, _, _, _, r, rfl, HR, h1, (HV.out.below ((below_drewN (Below.refl _ _) nq).trans hBD)).more ?_, (below_drewN hBW nq).trans (hBD.mono (by omega))⟩
    have := hBD.size
    have := lt_of_heap hK'
    omega
  case stop =>
    rintro D c pre W _ _ h _
    exact h.elim
end Go.Proofs.YthnickjbknpmhaaGreatDoor
