/-
  The contracts of word and compare.
-/
import Derived.Test.YthnickjbknpmhaaGreatDoorNumH
namespace Go.Proofs.YthnickjbknpmhaaGreatDoor
open Go.RowKit Go.Shelf

attribute [local go_sem] Oper.semAt_some

theorem word_step {l : List Nat} {k : Nat} (hl : Dig l) (hn : l.length ≤ k + 2) : bits BinOp.or IntKind.u64 (IntKind.u64.wrap ((nval (l.drop (k + 1)) : Nat) * 4294967296)) (dg l k : Nat) = ((nval (l.drop k) : Nat) : Int) := by
  have h1 : nval (l.drop (k + 1)) < 4294967296 := by
    have h2 := nval_lt (dig_drop hl (k + 1))
    have h3 : (l.drop (k + 1)).length ≤ 1 := by rw [List.length_drop]; omega
    have h4 : 4294967296 ^ (l.drop (k + 1)).length ≤ 4294967296 ^ 1 := Nat.pow_le_pow_right (by omega) h3
    omega
  have e : IntKind.u64.wrap ((nval (l.drop (k + 1)) : Int) * 4294967296) = (nval (l.drop (k + 1)) : Int) * 4294967296 := by rw [IntKind.wrap_u64]; omega
  rw [e, join64 _ _ h1 (dg_lt hl k), nval_drop l k]
  omega

/-- What holds between two rounds of word. -/
def WdI (b n : Nat) (l : List Nat) (pre : List {k : Nat // k < n}) (W : World) : Prop := ∃ z : Int, Boxed W b 58 (.int .u64 z) ∧ (pre <+: downs n → z = (nval (l.drop (n - pre.length)) : Nat))
theorem wdI_own (b n : Nat) (l : List Nat) : Own (WdI b n l) := fun _ _ _ _ ⟨z, h1, h2⟩ hg hr => ⟨z, heap_kept h1 rfl hg hr, h2⟩
theorem wdI_step {b n : Nat} {l : List Nat} {pre : List {k : Nat // k < n}} {x : {k : Nat // k < n}} {W : World} {z : Int} (hl : Dig l) (hn : l.length ≤ 2) (h1 : Boxed W b 58 (.int .u64 z)) (h2 : pre <+: downs n → z = (nval (l.drop (n - pre.length)) : Nat)) :
    WdI b n l (pre ++ [x]) (W.setCell ⟨b, 0, none⟩ (.int .u64 (bits BinOp.or IntKind.u64 (IntKind.u64.wrap (z * 4294967296)) (dg l x.1 : Nat)))) := by
  refine ⟨_, h1.set _, fun hp => ?_⟩
  obtain ⟨p1, p2, p3⟩ := downs_prefix hp
  have h7 := h2 p1
  have e : n - pre.length = x.1 + 1 := by omega
  have e2 : n - (pre ++ [x]).length = x.1 := by simp; omega
  rw [e] at h7
  rw [e2, h7]
  exact word_step hl (by omega)

set_option maxRecDepth 100000 in
set_option maxHeartbeats 2000000 in
theorem word_any (A : Option Addr) (n c B : Nat) (l : List Nat) (w : World) (h : Sl w B A n c l) (hB : B ≤ w.heap.size) (hn : n ≤ 2) :
    Calls Tryz.prog 33 #[.slice A n c] w fun e w' => e = .returned (.int .u64 (nval l : Nat)) ∧ Below w.heap.size w w' := by
  have H := Lib.hid (h.more hB)
  have HL := Lib.hid h.len
  clear h
  refine (callsIn_wide (n := 3)).1 ?_
  refine callsIn_of_wp_marks Tryz.func33 rfl trivial ?_ rfl
  simp only [Tryz.ntmps33, List.size_toArray, List.length_cons, List.length_nil, Nat.reduceAdd, Nat.reduceSub, Array.replicate_succ, Array.replicate_zero, List.push_toArray, List.append_toArray, List.nil_append, List.cons_append]
  gi_wp2_with (refine ⟨trivial, ?_⟩; gi_at_call 53; refine (down_in _ _ trivial rfl _ _ _ _).mono ?_; rintro e w' ⟨rfl, rfl⟩)
  have b0 := (Boxed.new w 58 (.int .u64 0)).alloc (.cells #[.slice A n c] 50)
  have b1 := Boxed.new (w.alloc (.cells #[.int .u64 0] 58)) 50 (.slice A n c)
  rw [World.size_alloc] at b1
  have hB0 : Below w.heap.size w ((w.alloc (.cells #[.int .u64 0] 58)).alloc (.cells #[.slice A n c] 50)) := by go_grown
  have hz : ((w.alloc (.cells #[.int .u64 0] 58)).alloc (.cells #[.slice A n c] 50)).heap.size = w.heap.size + 1 + 1 := by simp
  obtain ⟨W0, hW0⟩ : ∃ W0, ((w.alloc (.cells #[.int .u64 0] 58)).alloc (.cells #[.slice A n c] 50)) = W0 := ⟨_, rfl⟩
  rw [hW0] at hB0 b0 b1 hz ⊢
  clear hW0
  refine wpIn_rangeFunc_ownF rfl (by omega) (gf := 81) (lb := #[.pointer (some ⟨w.heap.size + 1, 0, none⟩)]) rfl trivial (enters_of Tryz.func81 (by kernel_rfl) rfl)
    (down_stops Fence.wide (3 - 1) trivial rfl (by omega) (w.heap.size + 1) w.heap.size A n c l W0 b1 (by omega) (H.out.below hB0)) kpD_t (kpD_b (by omega) (by omega)) (Below.refl _ _) (fun _ => rfl)
    (fun pre W => WdI w.heap.size n l pre W ∧ Below w.heap.size w W)
    (fun _ _ _ => False)
    (OwnFrom.and (Own.from (wdI_own _ _ _) _) (ownFrom_below (Nat.le_refl _) (by omega)))
    (fun _ _ _ _ _ hs _ _ => hs)
    ⟨⟨0, b0, fun _ => by have := HL.out; simp [nval, ← this]⟩, hB0⟩
    (fun x => { tmps := #[.slice A n c, undef, .int .u64 0, .pointer (some ⟨w.heap.size, 0, none⟩), undef, .int .u32 (dg l x.1 : Nat), .slice A n c, .func (.func 81) #[] #[.pointer (some ⟨w.heap.size + 1, 0, none⟩)], .int .i64 (x.1 : Nat), .int .u32 (dg l x.1 : Nat), undef, undef, undef, undef, undef, undef], defers := [] }) ?assign ?body ?done ?stop
  case assign =>
    intro l x W K hK
    gi_wp2
    exact hK
  case body =>
    rintro ll pre x W ⟨⟨z, h1, h2⟩, hBW⟩ _
    have e1 := h1.cell
    have f1 := h1.frozen
    have hz1 := h1.lt
    have HS := Lib.hid (@wdI_step w.heap.size n l pre x W z H.out.dig (by have := HL.out; omega) h1 h2)
    have hdl := dg_lt H.out.dig x.1
    clear h2 h1
    gi_wp2
    exact ⟨KeepsOthers.setCell _ _ _, ⟨by go_grown, Below.heap_setCell _ ⟨w.heap.size, 0, none⟩ _ _ (by simp)⟩, HS.out, by go_grown⟩
  case done =>
    rintro D ys W hD rfl ⟨⟨z, h1, h2⟩, hBW⟩ hK
    have e1 := h1.cell
    have hv : z = (nval l : Nat) := by have := h2 (List.prefix_refl _); rwa [downs_length, Nat.sub_self] at this
    have HV := Lib.hid hv
    clear hv h2
    gi_wp2
    have hBD := belowK_b (n₀ := w.heap.size) (w := W0) (by omega) W D _ (.deferred none) hD hK rfl rfl
    refine ⟨by simp, .inl ⟨_, _, rfl, run_takeDeferred hK, ?_⟩⟩
    exact ⟨_, results_tmp rfl _ _ _, by rw [HV.out]; rfl, hBW.trans hBD⟩
  case stop =>
    rintro D c pre W _ _ h _
    exact h.elim

/-- The order of two numbers, as compare returns it. -/
def cmpv (a b : Nat) : Int := if a < b then -1 else if b < a then 1 else 0
theorem cmpv_lt {a b : Nat} (h : a < b) : cmpv a b = -1 := if_pos h
theorem cmpv_gt {a b : Nat} (h : b < a) : cmpv a b = 1 := by unfold cmpv; rw [if_neg (by omega), if_pos h]
theorem cmpv_eq (a : Nat) : cmpv a a = 0 := by unfold cmpv; rw [if_neg (by omega), if_neg (by omega)]

theorem cmpu_any (a b : Nat) (w : World) : Calls Tryz.prog 79 #[.int .u32 a, .int .u32 b] w fun e w' => e = .returned (.int .i64 (cmpv a b)) ∧ w = w' := by
  rcases Nat.lt_trichotomy a b with h | h | h
  · rw [cmpv_lt h]
    go_enter Tryz.func79, Tryz.ntmps79
    go_wp2
    go_ret
    exact ⟨rfl, rfl⟩
  · subst h
    rw [cmpv_eq]
    go_enter Tryz.func79, Tryz.ntmps79
    go_wp2
    go_ret
    exact ⟨rfl, rfl⟩
  · rw [cmpv_gt h]
    have h2 : ¬ a < b := by omega
    go_enter Tryz.func79, Tryz.ntmps79
    go_wp2
    go_ret
    exact ⟨rfl, rfl⟩
theorem cmpi_any (a b : Nat) (w : World) : Calls Tryz.prog 78 #[.int .i64 a, .int .i64 b] w fun e w' => e = .returned (.int .i64 (cmpv a b)) ∧ w = w' := by
  rcases Nat.lt_trichotomy a b with h | h | h
  · rw [cmpv_lt h]
    go_enter Tryz.func78, Tryz.ntmps78
    go_wp2
    go_ret
    exact ⟨rfl, rfl⟩
  · subst h
    rw [cmpv_eq]
    go_enter Tryz.func78, Tryz.ntmps78
    go_wp2
    go_ret
    exact ⟨rfl, rfl⟩
  · rw [cmpv_gt h]
    have h2 : ¬ a < b := by omega
    go_enter Tryz.func78, Tryz.ntmps78
    go_wp2
    go_ret
    exact ⟨rfl, rfl⟩

theorem nval_parts (l : List Nat) {k : Nat} (hk : k ≤ l.length) : nval l = nval (l.take k) + 4294967296 ^ k * nval (l.drop k) := by
  have := nval_append (l.take k) (l.drop k)
  rw [List.take_append_drop, List.length_take, Nat.min_eq_left hk] at this
  exact this
theorem nval_lt_top {l m : List Nat} {k : Nat} (hl : Dig l) (hk : k ≤ l.length) (hk2 : k ≤ m.length) (h : nval (l.drop k) < nval (m.drop k)) : nval l < nval m := by
  rw [nval_parts l hk, nval_parts m hk2]
  have h1 := nval_lt (dig_take hl k)
  rw [List.length_take, Nat.min_eq_left hk] at h1
  have h2 : 4294967296 ^ k * (nval (l.drop k) + 1) ≤ 4294967296 ^ k * nval (m.drop k) := Nat.mul_le_mul_left _ h
  rw [Nat.mul_add] at h2
  omega
theorem cmpv_top {l m : List Nat} {k : Nat} (hl : Dig l) (hm : Dig m) (hk : k < l.length) (hk2 : k < m.length) (he : nval (l.drop (k + 1)) = nval (m.drop (k + 1))) (hne : dg l k ≠ dg m k) : cmpv (dg l k) (dg m k) = cmpv (nval l) (nval m) := by
  rcases Nat.lt_or_gt_of_ne hne with h | h
  · rw [cmpv_lt h, cmpv_lt (nval_lt_top hl (Nat.le_of_lt hk) (Nat.le_of_lt hk2) (by rw [nval_drop l k, nval_drop m k, he]; omega))]
  · rw [cmpv_gt h, cmpv_gt (nval_lt_top hm (Nat.le_of_lt hk2) (Nat.le_of_lt hk) (by rw [nval_drop l k, nval_drop m k, he]; omega))]

/-- What holds between two rounds of compare, and where it has ended. -/
def CpI (n : Nat) (l m : List Nat) (pre : List {k : Nat // k < n}) : Prop := pre <+: downs n → nval (l.drop (n - pre.length)) = nval (m.drop (n - pre.length))
def CpX (b n : Nat) (l m : List Nat) (pre : List {k : Nat // k < n}) (W : World) : Prop := ∃ z : Int, Boxed W b 3 (.int .i64 z) ∧ (pre <+: downs n → z = cmpv (nval l) (nval m))

set_option maxRecDepth 100000 in
set_option maxHeartbeats 2000000 in
theorem compare_same (A A2 : Option Addr) (n c c2 B : Nat) (l m : List Nat) (w : World) (h : Sl w B A n c l) (h2 : Sl w B A2 n c2 m) (hB : B ≤ w.heap.size) :
    Calls Tryz.prog 49 #[.slice A n c, .slice A2 n c2] w fun e w' => e = .returned (.int .i64 (cmpv (nval l) (nval m))) ∧ Below w.heap.size w w' := by
  have H := Lib.hid (h.more hB)
  have HL := Lib.hid h.len
  have H2 := Lib.hid (h2.more hB)
  have HL2 := Lib.hid h2.len
  clear h h2
  refine (callsIn_wide (n := 3)).1 ?_
  refine callsIn_of_wp_marks Tryz.func49 rfl trivial ?_ rfl
  simp only [Tryz.ntmps49, List.size_toArray, List.length_cons, List.length_nil, Nat.reduceAdd, Nat.reduceSub, Array.replicate_succ, Array.replicate_zero, List.push_toArray, List.append_toArray, List.nil_append, List.cons_append]
  gi_wp2_with (refine ⟨trivial, ?_⟩; gi_at_call 53; refine (down_in _ _ trivial rfl _ _ _ _).mono ?_; rintro e w' ⟨rfl, rfl⟩)
  have b0 := ((Boxed.new w 50 (.slice A2 n c2)).alloc (.cells #[.int .i64 0] 3)).alloc (.cells #[.slice A n c] 50)
  have b1 := (Boxed.new (w.alloc (.cells #[.slice A2 n c2] 50)) 3 (.int .i64 0)).alloc (.cells #[.slice A n c] 50)
  have b2 := Boxed.new ((w.alloc (.cells #[.slice A2 n c2] 50)).alloc (.cells #[.int .i64 0] 3)) 50 (.slice A n c)
  rw [World.size_alloc] at b1
  rw [World.size_alloc, World.size_alloc] at b2
  have hB0 : Below w.heap.size w (((w.alloc (.cells #[.slice A2 n c2] 50)).alloc (.cells #[.int .i64 0] 3)).alloc (.cells #[.slice A n c] 50)) := by go_grown
  have hz : (((w.alloc (.cells #[.slice A2 n c2] 50)).alloc (.cells #[.int .i64 0] 3)).alloc (.cells #[.slice A n c] 50)).heap.size = w.heap.size + 1 + 1 + 1 := by simp
  obtain ⟨W0, hW0⟩ : ∃ W0, (((w.alloc (.cells #[.slice A2 n c2] 50)).alloc (.cells #[.int .i64 0] 3)).alloc (.cells #[.slice A n c] 50)) = W0 := ⟨_, rfl⟩
  rw [hW0] at hB0 b0 b1 b2 hz ⊢
  clear hW0
  refine wpIn_rangeFunc_ownF rfl (by omega) (gf := 81) (lb := #[.pointer (some ⟨w.heap.size + 1 + 1, 0, none⟩)]) rfl trivial (enters_of Tryz.func81 (by kernel_rfl) rfl)
    (down_stops Fence.wide (3 - 1) trivial rfl (by omega) (w.heap.size + 1 + 1) w.heap.size A n c l W0 b2 (by omega) (H.out.below hB0)) kpD_t (kpD_b (by omega) (by omega)) (Below.refl _ _) (fun _ => rfl)
    (fun pre W => ((Boxed W w.heap.size 50 (.slice A2 n c2) ∧ Boxed W (w.heap.size + 1) 3 (.int .i64 0)) ∧ CpI n l m pre) ∧ Below w.heap.size w W)
    (fun c pre W => (c = .ret ∧ CpX (w.heap.size + 1) n l m pre W) ∧ Below w.heap.size w W)
    (OwnFrom.and (Own.from (fun _ _ _ _ hs hg hr => ⟨⟨heap_kept hs.1.1 rfl hg hr, heap_kept hs.1.2 rfl hg hr⟩, hs.2⟩) _) (ownFrom_below (Nat.le_refl _) (by omega)))
    (fun c => OwnFrom.and (Own.from (fun _ _ _ _ ⟨h1, z, h2, h3⟩ hg hr => ⟨h1, z, heap_kept h2 rfl hg hr, h3⟩) _) (ownFrom_below (Nat.le_refl _) (by omega)))
    ⟨⟨⟨b0, b1⟩, fun _ => by have := HL.out; have := HL2.out; rw [List.drop_of_length_le (by simp; omega), List.drop_of_length_le (by simp; omega)]⟩, hB0⟩
    (fun x => { tmps := #[.slice A n c, .slice A2 n c2, undef, .pointer (some ⟨w.heap.size, 0, none⟩), .pointer (some ⟨w.heap.size + 1, 0, none⟩), .int .i64 (x.1 : Nat), .int .u32 (dg l x.1 : Nat), .slice A n c, .int .i64 (n : Nat), .slice A2 n c2, .int .i64 (n : Nat), .bool false, undef, undef, undef, undef, undef, .slice A n c, .func (.func 81) #[] #[.pointer (some ⟨w.heap.size + 1 + 1, 0, none⟩)], .int .i64 (x.1 : Nat), .int .u32 (dg l x.1 : Nat), undef, undef, undef, undef, undef, undef, undef, undef, undef, undef, undef, undef], defers := [] }) ?assign ?body ?done ?stop
  case assign =>
    intro l x W K hK
    gi_wp2
    exact hK
  case body =>
    rintro ll pre x W ⟨⟨⟨h1, h2⟩, h3⟩, hBW⟩ _
    obtain ⟨ad, rfl, hb, hc⟩ := (H2.out.below hBW).at_ (k := x.1) x.2
    have hx := x.2
    have e1 := h1.cell
    have e2 := h2.cell
    have f2 := h2.frozen
    have hz2 := h2.lt
    by_cases heq : dg l x.1 = dg m x.1
    · have hq : ((dg l x.1 : Int) != (dg m x.1 : Int)) = false := by rw [heq]; simp
      have H3 : Hid (CpI n l m (pre ++ [x])) := by
        intro hp
        obtain ⟨p1, p2, p3⟩ := downs_prefix hp
        have h7 := h3 p1
        have ee : n - pre.length = x.1 + 1 := by omega
        have ee2 : n - (pre ++ [x]).length = x.1 := by simp; omega
        rw [ee] at h7
        rw [ee2, nval_drop l, nval_drop m, h7, heq]
      clear heq h3
      gi_wp2
      exact ⟨KeepsOthers.refl _, kpD_refl _ _ _, ⟨⟨h1, h2⟩, H3⟩, hBW⟩
    · have hq : ((dg l x.1 : Int) != (dg m x.1 : Int)) = true := by simp; omega
      have H3 : Hid (∀ z, z = cmpv (dg l x.1) (dg m x.1) → CpX (w.heap.size + 1) n l m (pre ++ [x]) (W.setCell ⟨w.heap.size + 1, 0, none⟩ (.int .i64 z))) := by
        rintro z rfl
        refine ⟨_, h2.set _, fun hp => ?_⟩
        obtain ⟨p1, p2, p3⟩ := downs_prefix hp
        have h7 := h3 p1
        have ee : n - pre.length = x.1 + 1 := by omega
        rw [ee] at h7
        exact cmpv_top H.out.dig H2.out.dig (by have := HL.out; omega) (by have := HL2.out; omega) h7 heq
      clear heq h3
      gi_wp2_with (refine ⟨trivial, ?_⟩; gi_at_call 79; refine (CallsIn.inRound ll (callsIn_wide.2 (cmpu_any (dg l x.1) (dg m x.1) _))).mono ?_; rintro e w' ⟨rfl, rfl⟩)
      exact ⟨KeepsOthers.setCell _ _ _, ⟨rfl, H3.out _ rfl⟩, by go_grown⟩
  case done =>
    rintro D ys W hD rfl ⟨⟨⟨h1, h2⟩, h3⟩, hBW⟩ hK
    have e2 := h2.cell
    have f2 := h2.frozen
    have hz2 := h2.lt
    have HV : Hid (cmpv (nval l) (nval m) = 0) := by
      have := h3 (List.prefix_refl _)
      rw [downs_length, Nat.sub_self, List.drop_zero, List.drop_zero] at this
      unfold Hid
      rw [this]; exact cmpv_eq _
    clear h3
    gi_wp2
    have hK' := (KeepsOthers.setCell W ⟨w.heap.size + 1, 0, none⟩ (.int .i64 0)).same D _ hK rfl
    refine ⟨by simp, .inl ⟨_, _, rfl, run_takeDeferred hK', ?_⟩⟩
    have hc5 := cell_kept (World.cell?_setCell_same' W ⟨w.heap.size + 1, 0, none⟩ (.int .i64 0) (by rw [e2]; rfl)) (grownBy_putObj' _ D (.deferred none)) (fun r e => by cases e; exact ⟨_, hK', rfl⟩)
    refine ⟨.int .i64 0, ?_, by rw [HV.out], (hBW.setCell (p := ⟨w.heap.size + 1, 0, none⟩) (by simp) _).trans (belowK_b (w := w) (Nat.le_refl _) _ D _ _ (by omega) hK' rfl rfl)⟩
    simp [results, Tryz.f49, go_sem, hc5]
  case stop =>
    rintro D c pre W hD hpre ⟨⟨rfl, z, h1, h2⟩, hBW⟩ hK
    have HV := Lib.hid (h2 hpre)
    clear h2
    gi_wp2
    refine ⟨by simp, .inl ⟨_, _, rfl, run_takeDeferred hK, ?_⟩⟩
    have hc5 := cell_kept h1.cell (grownBy_putObj' _ D (.deferred none)) (fun r e => by cases e; exact ⟨_, hK, rfl⟩)
    refine ⟨.int .i64 z, ?_, by rw [HV.out], hBW.trans (belowK_b (w := w) (Nat.le_refl _) _ D _ _ (by omega) hK rfl rfl)⟩
    simp [results, Tryz.f49, go_sem, hc5]
set_option maxHeartbeats 400000 in
theorem compare_len (A A2 : Option Addr) (n n2 c c2 : Nat) (w : World) (hn : n ≠ n2) :
    Calls Tryz.prog 49 #[.slice A n c, .slice A2 n2 c2] w fun e w' => e = .returned (.int .i64 (cmpv n n2)) ∧ Below w.heap.size w w' := by
  have hd : ((n : Int) != (n2 : Int)) = true := by simp; omega
  have hd2 : (n != n2) = true := by simp; omega
  clear hn
  go_enter Tryz.func49, Tryz.ntmps49
  go_wp2_with (go_at_call 78; refine (cmpi_any n n2 _).mono ?_; rintro e w' ⟨rfl, rfl⟩)
  exact bodyPost_ret (v := .int .i64 (cmpv n n2)) (by simp [results, Tryz.f49, go_sem]) rfl ⟨rfl, by go_grown⟩

theorem compare_any {A A2 : Option Addr} {n n2 c c2 B : Nat} {l m : List Nat} {w : World} (h : Sl w B A n c l) (h2 : Sl w B A2 n2 c2 m) (hB : B ≤ w.heap.size) (hl : Canon l) (hm : Canon m) :
    Calls Tryz.prog 49 #[.slice A n c, .slice A2 n2 c2] w fun e w' => e = .returned (.int .i64 (cmpv (nval l) (nval m))) ∧ Below w.heap.size w w' := by
  by_cases hn : n = n2
  · subst hn; exact compare_same A A2 n c c2 B l m w h h2 hB
  · have e : cmpv (nval l) (nval m) = cmpv n n2 := by
      rcases Nat.lt_or_gt_of_ne hn with h0 | h0
      · rw [cmpv_lt h0, cmpv_lt (canon_len_lt hl.1 hm (by rw [h.len, h2.len]; exact h0))]
      · rw [cmpv_gt h0, cmpv_gt (canon_len_lt hm.1 hl (by rw [h.len, h2.len]; exact h0))]
    rw [e]
    exact compare_len A A2 n n2 c c2 w hn
end Go.Proofs.YthnickjbknpmhaaGreatDoor
