/-
  The contract of Parse: the number whose text the string is.
-/
import Derived.Test.YthnickjbknpmhaaGreatDoorNumText
import Derived.Test.YthnickjbknpmhaaGreatDoorNumGcd
namespace Go.Proofs.YthnickjbknpmhaaGreatDoor
open Go.RowKit Go.Shelf

theorem trimPrefix_cut (s : List UInt8) : Lib.trimPrefix s [45] = cutR s ∧ Lib.hasPrefix s [45] = cutN s := by
  cases s with
  | nil => exact ⟨rfl, rfl⟩
  | cons b s =>
    by_cases h : b = 45
    · subst h; exact ⟨rfl, by simp [Lib.hasPrefix, cutN]⟩
    · have h1 : Lib.hasPrefix (b :: s) [45] = false := by simp [Lib.hasPrefix, List.isPrefixOf, Ne.symm h]
      refine ⟨?_, by rw [h1]; simp [cutN, h]⟩
      unfold Lib.trimPrefix
      rw [h1]; simp [cutR, h]
theorem cutPrefix_any (s : List UInt8) (w : World) : Calls Tryz.prog 43 #[.string ⟨s.toArray⟩, .string ⟨#[45]⟩] w fun e w' => e = .returned (.tuple #[.string ⟨(cutR s).toArray⟩, .bool (cutN s)]) ∧ w' = w := by
  have := Tryz.strings_CutPrefix ⟨s.toArray⟩ ⟨#[45]⟩ w
  rwa [show (⟨s.toArray⟩ : ByteArray).data.toList = s from rfl, show (⟨#[45]⟩ : ByteArray).data.toList = [45] from rfl, (trimPrefix_cut s).1, (trimPrefix_cut s).2] at this

/-- The variable strconv.ErrSyntax holds an error, in all later memory. -/
def SynT (B : Nat) (w : World) : Prop := ∀ w', Below B w w' → ∃ ev, w'.cell? ⟨1, 0, none⟩ = some ev ∧ (ev = .nilIface ∨ ∃ te pe, ev = .iface te pe)
theorem SynT.below {B B' : Nat} {w w' : World} (h : SynT B w) (hb : Below B' w w') (hB : B ≤ B') : SynT B w' := fun w2 h2 => h w2 ((hb.mono hB).trans h2)

theorem below_bytes (w : World) (e : TypeId) (s : ByteArray) : Below w.heap.size w (Lib.bytesWorld w e s) :=
  ⟨rfl, rfl, rfl, by rw [Lib.bytesWorld_size]; omega, fun i hi => Lib.bytesWorld_at_old w e s i hi⟩
/-- A piece of at most nine bytes, as ParseUint reads it. -/
theorem piece_ok (t : List UInt8) (hl : t.length ≤ 9) (h0 : t ≠ []) (ht : AllD t) (w : World) :
    Calls Tryz.prog 44 #[.string ⟨t.toArray⟩, .int .i64 10, .int .i64 32] w fun e w' => e = .returned (.tuple #[.int .u64 (dval t : Nat), .nilIface]) ∧ Below w.heap.size w w' := by
  have hp : Lib.parseUintB 32 t = .ok (dval t) := by
    unfold Lib.parseUintB
    rw [if_neg h0, show 2 ^ 32 - 1 = 4294967295 from rfl, uint_piece t 0 (by
      rw [Nat.zero_add, Nat.one_mul]
      exact Nat.pow_le_pow_right (by omega) hl), if_pos ht]
    rfl
  refine (Tryz.strconv_ParseUint_10_at32_ok ⟨t.toArray⟩ (by simp [ByteArray.size]; omega) (dval t) hp w).mono ?_
  rintro e w' ⟨rfl, rfl | rfl⟩
  · exact ⟨rfl, Below.refl _ _⟩
  · exact ⟨rfl, below_bytes _ _ _⟩
theorem piece_bad (t : List UInt8) (hl : t.length ≤ 9) (h0 : t ≠ []) (ht : ¬ AllD t) (w : World) {B : Nat} (hS : SynT B w) :
    Calls Tryz.prog 44 #[.string ⟨t.toArray⟩, .int .i64 10, .int .i64 32] w fun e w' => ∃ te pe, e = .returned (.tuple #[.int .u64 0, .iface te pe]) ∧ Below w.heap.size w w' := by
  have hp : Lib.parseUintB 32 t = .syntax := by
    unfold Lib.parseUintB
    rw [if_neg h0, show 2 ^ 32 - 1 = 4294967295 from rfl, uint_piece t 0 (by
      rw [Nat.zero_add, Nat.one_mul]
      exact Nat.pow_le_pow_right (by omega) hl), if_neg ht]
  obtain ⟨ev, h1, h2⟩ := hS w (Below.refl _ _)
  refine (Tryz.strconv_ParseUint_10_at32_syntax ⟨t.toArray⟩ (by simp [ByteArray.size]; omega) hp ev w h1 h2).mono ?_
  rintro e w' ⟨N, rfl, _, _, hb⟩
  exact ⟨_, _, rfl, hb⟩

/-- What holds between two rounds of Parse. -/
def PrI (W : World) (s : List UInt8) (A : Option Addr) (n c p : Nat) (pre r : List UInt8) : Prop := Sl W W.heap.size A n c (digs p) ∧ cutR s = pre ++ r ∧ AllD pre ∧ p = dval pre ∧ (pre = [] ∨ r.length % 9 = 0)
theorem pow_dec {k N : Nat} (h : k ≤ N) : 10 ^ k ≤ 4294967296 ^ N := Nat.le_trans (Nat.pow_le_pow_left (by decide) k) (Nat.pow_le_pow_right (by decide) h)
theorem digs_short {p k N : Nat} (h : p < 10 ^ k) (hk : k ≤ N) : (digs p).length ≤ N := by
  have h8 : p < 4294967296 ^ N := Nat.lt_of_lt_of_le h (pow_dec hk)
  rcases Nat.lt_or_ge N (digs p).length with h9 | h9
  · have h10 := canon_ge (digs_canon p) (by rintro e; rw [e] at h9; simp at h9)
    rw [nval_digs] at h10
    have h12 : N ≤ (digs p).length - 1 := by omega
    have h11 : 4294967296 ^ N ≤ 4294967296 ^ ((digs p).length - 1) := Nat.pow_le_pow_right (by decide) h12
    exact absurd (Nat.lt_of_lt_of_le h8 (Nat.le_trans h11 h10)) (Nat.lt_irrefl _)
  · exact h9
theorem prI_len {W : World} {s : List UInt8} {A : Option Addr} {n c p : Nat} {pre r : List UInt8} (h : PrI W s A n c p pre r) (hs : (cutR s).length ≤ 640) : n ≤ 640 ∧ r.length ≤ 640 := by
  obtain ⟨h1, h2, h3, h4, _⟩ := h
  have h5 := congrArg List.length h2
  rw [List.length_append] at h5
  have h6 := dval_lt h3
  rw [← h4] at h6
  have h7 := digs_short h6 (N := 640) (by omega)
  rw [h1.len] at h7
  exact ⟨h7, by omega⟩
theorem prI_mul {W : World} {s : List UInt8} {A : Option Addr} {n c p : Nat} {pre r : List UInt8} (h : PrI W s A n c p pre r) (hs : (cutR s).length ≤ 640) : (digs (p * 1000000000)).length ≤ 1000 := by
  obtain ⟨h1, h2, h3, h4, _⟩ := h
  have h5 := congrArg List.length h2
  rw [List.length_append] at h5
  have h6 := dval_lt h3
  rw [← h4] at h6
  refine digs_short (k := pre.length + 9) ?_ (by omega)
  rw [Nat.pow_add]
  exact Nat.mul_lt_mul_of_pos_right h6 (by decide)
theorem prI_step {W W2 : World} {s : List UInt8} {A A2 : Option Addr} {n c n2 c2 p k u : Nat} {pre r : List UInt8} {b : UInt8} (h : PrI W s A n c p pre (b :: r)) (hk : r.length % 9 + 1 = k) (hD : AllD ((b :: r).take k)) (hu : dval ((b :: r).take k) = u)
    (h2 : Sl W2 W2.heap.size A2 n2 c2 (digs (p * 1000000000 + u))) : PrI W2 s A2 n2 c2 (p * 1000000000 + u) (pre ++ (b :: r).take k) ((b :: r).drop k) := by
  obtain ⟨h1, h3, h4, h5, h6⟩ := h
  have hm := Nat.mod_le r.length 9
  refine ⟨h2, by rw [List.append_assoc, List.take_append_drop]; exact h3, allD_append.2 ⟨h4, hD⟩, ?_, .inr (by rw [List.length_drop, List.length_cons]; omega)⟩
  rw [dval_append, dvalA_eq, hu, ← h5, List.length_take, List.length_cons, Nat.min_eq_left (by omega)]
  rcases h6 with h6 | h6
  · subst h6
    have : p = 0 := h5
    subst this
    simp
  · rw [List.length_cons] at h6
    rw [show k = 9 by omega]
theorem PowT.mono {B B' : Nat} {w : World} (h : PowT B w) (hB : B ≤ B') : PowT B' w := fun w2 h2 => h w2 (h2.mono hB)
theorem SynT.mono {B B' : Nat} {w : World} (h : SynT B w) (hB : B ≤ B') : SynT B' w := fun w2 h2 => h w2 (h2.mono hB)
theorem Sl.alloc_ {w : World} {A : Option Addr} {n c : Nat} {l : List Nat} (h : Sl w w.heap.size A n c l) (o : Obj) : Sl (w.alloc o) (w.alloc o).heap.size A n c l := (h.below ((Below.refl _ _).alloc (Nat.le_refl _) o)).more (by simp)
theorem retN_none {w w' : World} {e : Ending} (h : RetN none w e w') : ∃ A n c, e = .returned (.tuple #[.agg #[.bool false, .slice A n c], .bool false]) ∧ Sl w' w'.heap.size A n c (digs 0) ∧ Below w.heap.size w w' := h
theorem retN_some {x : Int} {w w' : World} {e : Ending} (h : RetN (some x) w e w') : ∃ A n c, e = .returned (.tuple #[.agg #[.bool (decide (x < 0)), .slice A n c], .bool true]) ∧ Sl w' w'.heap.size A n c (digs x.natAbs) ∧ Below w.heap.size w w' := h
theorem right_digs {x : Int} (h : x.natAbs < big) : rightB (decide (x < 0)) (digs x.natAbs) = true := by
  have h1 := (digs_fits x.natAbs).2 h
  have h2 := (digs_canon x.natAbs).2
  by_cases h0 : digs x.natAbs = []
  · have := digs_nil.1 h0
    rw [h0]
    have hx : ¬ x < 0 := by omega
    simp [rightB, hx]
  · rcases snoc_cases (digs x.natAbs) with h3 | ⟨a, d, h3⟩
    · exact absurd h3 h0
    · rw [h3] at h1 h2 ⊢
      simp at h1 h2
      simp [rightB, h2]
      omega
theorem sgn_dec (x : Int) : sgn (decide (x < 0)) x.natAbs = x := by
  unfold sgn
  by_cases h : x < 0
  · simp [h]; omega
  · simp [h]; omega
theorem textS_digs {x : Int} (h : x.natAbs < big) : textS (decide (x < 0)) (digs x.natAbs) = Lib.itoa x := by
  unfold textS
  rw [if_pos (right_digs h), nval_digs, sgn_dec]
theorem ext_take (t : List UInt8) (k : Nat) : (⟨t.toArray⟩ : ByteArray).extract 0 k = ⟨(t.take k).toArray⟩ := by
  apply ByteArray.ext
  simp [ByteArray.data_extract]
theorem ext_drop (t : List UInt8) (k n : Nat) (h : n = t.length) : (⟨t.toArray⟩ : ByteArray).extract k n = ⟨(t.drop k).toArray⟩ := by
  subst h
  apply ByteArray.ext
  simp [ByteArray.data_extract]
  exact List.take_of_length_le (by simp)

attribute [local go_sem] bapp

set_option maxRecDepth 100000 in
set_option maxHeartbeats 1000000 in
theorem parse_empty (s : List UInt8) (w : World) (h : cutR s = []) :
    Calls Tryz.prog 20 #[.string ⟨s.toArray⟩] w (RetN none w) := by
  have CP := Lib.hid (cutPrefix_any s)
  rw [h] at CP
  have s0 := S1.start (w := w) (neg := false) (A := none) (n := 0) (c := 0)
  clear h
  go_enter Tryz.func20, Tryz.ntmps20
  go_wp2_with (go_at_call 43; refine (CP.out _).mono ?_; rintro e w1 ⟨rfl, rfl⟩)
  exact bodyPost_ret (v := .tuple #[.agg #[.bool false, .slice none 0 0], .bool false]) (by simp [results, Tryz.f20, go_sem]) rfl ⟨_, _, _, rfl, by rw [show digs (vO none).natAbs = [] from digs_zero]; exact Sl.none_, by go_grown⟩

set_option maxRecDepth 100000 in
set_option maxHeartbeats 1000000 in
theorem parse_long (s : List UInt8) (w : World) (h : 640 < (cutR s).length) :
    Calls Tryz.prog 20 #[.string ⟨s.toArray⟩] w (RetN none w) := by
  have CP := Lib.hid (cutPrefix_any s)
  obtain ⟨t0, t1, ht⟩ : ∃ t0 t1, cutR s = t0 :: t1 := by
    cases he : cutR s with
    | nil => rw [he] at h; simp at h
    | cons a b => exact ⟨a, b, rfl⟩
  rw [ht] at CP h
  have h2 : (640 : Int) < (t1.length : Int) + 1 := by simp at h; omega
  clear h ht
  go_enter Tryz.func20, Tryz.ntmps20
  go_wp2_with (go_at_call 43; refine (CP.out _).mono ?_; rintro e w1 ⟨rfl, rfl⟩)
  exact bodyPost_ret (v := .tuple #[.agg #[.bool false, .slice none 0 0], .bool false]) (by simp [results, Tryz.f20, go_sem]) rfl ⟨_, _, _, rfl, by rw [show digs (vO none).natAbs = [] from digs_zero]; exact Sl.none_, by go_grown⟩

set_option maxRecDepth 100000 in
set_option maxHeartbeats 2000000 in
theorem parse_main (s : List UInt8) (w : World) {B : Nat} (hB : B ≤ w.heap.size) (hT : PowT B w) (hS : SynT B w) (h0 : cutR s ≠ []) (h : (cutR s).length ≤ 640) :
    Calls Tryz.prog 20 #[.string ⟨s.toArray⟩] w (RetN (parseS s) w) := by
  have CP := Lib.hid (cutPrefix_any s)
  have HT := Lib.hid hT
  have HS := Lib.hid hS
  have s0 := S1.start (w := w) (neg := false) (A := none) (n := 0) (c := 0)
  obtain ⟨t0, t1, ht⟩ : ∃ t0 t1, cutR s = t0 :: t1 := by
    cases he : cutR s with
    | nil => exact absurd he h0
    | cons a b => exact ⟨a, b, rfl⟩
  have hcr := Lib.hid ht
  have h2 : ¬ (640 : Int) < (t1.length : Int) + 1 := by rw [ht] at h; simp at h; omega
  rw [ht] at CP
  have hlen := Lib.hid h
  clear h ht hT hS h0
  go_enter Tryz.func20, Tryz.ntmps20
  go_wp2_with (go_at_call 43; refine (CP.out _).mono ?_; rintro e w1 ⟨rfl, rfl⟩)
  go_loopw [4, 6] (fun x y W => ∃ r A3 n3 c3 p pre, x = .string ⟨List.toArray r⟩ ∧ y = .slice A3 n3 c3 ∧ S1 w false none 0 0 W ∧ Hid (PrI W s A3 n3 c3 p pre r)) (fun x _ _ => match x with | .string b => b.size | _ => 0)
  case atStart => exact ⟨t0 :: t1, none, 0, 0, 0, [], rfl, rfl, s0, Lib.hid ⟨by rw [digs_zero]; exact Sl.none_, hcr.out, (fun b hb => by cases hb), rfl, .inl rfl⟩⟩
  case round =>
    obtain ⟨r, A3, n3, c3, p, pre, rfl, rfl, sr, hI⟩ := hrel
    obtain ⟨hn3, hr3⟩ := prI_len hI.out hlen.out
    cases r with
    | nil =>
      have hpv : Hid (cutR s = pre ∧ p = dval (cutR s)) := by
        have h1 := hI.out.2.1
        rw [List.append_nil] at h1
        exact Lib.hid ⟨h1, by rw [h1]; exact hI.out.2.2.2.1⟩
      have NU : Hid (Calls Tryz.prog 28 #[.slice A3 n3 c3, .bool (cutN s)] wr (RetN (fitO (valS s)) wr)) := by
        have := number_any A3 n3 c3 wr.heap.size p (cutN s) _ wr hI.out.1 (Nat.le_refl _) (nval_digs _)
        rw [show sgn (cutN s) p = valS s by unfold valS; rw [← hpv.out.2]] at this
        exact Lib.hid (this.mono fun _ _ hr => retN_of hr)
      by_cases hf : (valS s).natAbs < big
      · have e1 : fitO (valS s) = some (valS s) := by unfold fitO; rw [if_pos hf]
        rw [e1] at NU
        obtain ⟨x, hx⟩ : ∃ x, valS s = x := ⟨_, rfl⟩
        have hps : Hid (parseS s = if Lib.itoa x = s then some x else none) := Lib.hid (by
          unfold parseS
          rw [hx] at hf ⊢
          by_cases h : Lib.itoa x = s
          · rw [if_pos ⟨h, hf⟩, if_pos h]
          · rw [if_neg (fun h2 => h h2.1), if_neg h])
        rw [hx] at NU hf
        have hrd := Lib.hid (textS_digs hf)
        clear e1 hx hf
        have TX := Lib.hid (fun (W : World) (A : Option Addr) (n c : Nat) (hW : Below w.heap.size w W) (hs : Sl W W.heap.size A n c (digs x.natAbs)) => text_any (decide (x < 0)) hs (Nat.le_refl _) ((HT.out.below hW hB).mono (Nat.le_trans hB hW.size)))
        rw [hrd.out] at TX
        by_cases heq : Lib.itoa x = s
        · rw [heq] at TX
          go_wp2_with (first
            | (go_at_call 28; (with_reducible refine (NU.out).mono ?_); rintro e w2 hr; obtain ⟨A6, n6, c6, rfl, hs6, hb6⟩ := retN_some hr; have s6 := sr.via hb6; have s7 := s6.via ((Below.refl _ _).alloc (Nat.le_refl _) (.cells #[.bool (decide (x < 0)), .slice A6 n6 c6] 26)); obtain ⟨r0, r1⟩ := s7.facts; obtain ⟨rf, rz⟩ := s7.frz)
            | (go_at_call 22; (with_reducible refine (TX.out _ _ _ _ s7.below (hs6.alloc_ _)).mono ?_); rintro e w3 ⟨rfl, hb7⟩; have s8 := s7.via hb7; obtain ⟨g0, g1⟩ := bcell hb7; clear r0 r1 rf rz; obtain ⟨r0, r1⟩ := s8.facts; obtain ⟨rf, rz⟩ := s8.frz)
            | fail "no arm")
          rw [hps.out, if_pos heq]
          obtain ⟨q0, q1⟩ := two_set (.bool (decide (x < 0))) (.slice A6 n6 c6) r0 r1
          refine bodyPost_ret (v := .tuple #[.agg #[.bool (decide (x < 0)), .slice A6 n6 c6], .bool true]) ?_ rfl ⟨A6, n6, c6, rfl, ?_, ?_⟩
          · simp [results, Tryz.f20, go_sem, q0, q1]
          · exact (((hs6.alloc_ _).below hb7).more hb7.size).stored r0 r1 _ _
          · exact (s8.below.setCell (by simp) _).setCell (by simp) _
        · have hbq : (Lib.itoa x == s) = false := by simp [heq]
          go_wp2_with (first
            | (go_at_call 28; (with_reducible refine (NU.out).mono ?_); rintro e w2 hr; obtain ⟨A6, n6, c6, rfl, hs6, hb6⟩ := retN_some hr; have s6 := sr.via hb6; have s7 := s6.via ((Below.refl _ _).alloc (Nat.le_refl _) (.cells #[.bool (decide (x < 0)), .slice A6 n6 c6] 26)); obtain ⟨r0, r1⟩ := s7.facts; obtain ⟨rf, rz⟩ := s7.frz)
            | (go_at_call 22; (with_reducible refine (TX.out _ _ _ _ s7.below (hs6.alloc_ _)).mono ?_); rintro e w3 ⟨rfl, hb7⟩; have s8 := s7.via hb7; obtain ⟨g0, g1⟩ := bcell hb7; clear r0 r1 rf rz; obtain ⟨r0, r1⟩ := s8.facts; obtain ⟨rf, rz⟩ := s8.frz)
            | fail "no arm")
          rw [hps.out, if_neg heq]
          obtain ⟨q0, q1⟩ := two_set (.bool false) (.slice none 0 0) r0 r1
          refine bodyPost_ret (v := .tuple #[.agg #[.bool false, .slice none 0 0], .bool false]) ?_ rfl ⟨_, _, _, rfl, by rw [show digs (vO none).natAbs = [] from digs_zero]; exact Sl.none_, ?_⟩
          · simp [results, Tryz.f20, go_sem, q0, q1]
          · exact (s8.below.setCell (by simp) _).setCell (by simp) _
      · have e1 : fitO (valS s) = none := by unfold fitO; rw [if_neg hf]
        rw [e1] at NU
        have hps : Hid (parseS s = none) := Lib.hid (by unfold parseS; rw [if_neg (fun h => hf h.2)])
        clear e1 hf
        go_wp2_with (first
          | (go_at_call 28; (with_reducible refine (NU.out).mono ?_); rintro e w2 hr; obtain ⟨A6, n6, c6, rfl, hs6, hb6⟩ := retN_none hr; have s6 := sr.via hb6; have s7 := s6.via ((Below.refl _ _).alloc (Nat.le_refl _) (.cells #[.bool false, .slice A6 n6 c6] 26)); obtain ⟨r0, r1⟩ := s7.facts; obtain ⟨rf, rz⟩ := s7.frz)
          | fail "no arm")
        rw [hps.out]
        obtain ⟨q0, q1⟩ := two_set (.bool false) (.slice none 0 0) r0 r1
        refine bodyPost_ret (v := .tuple #[.agg #[.bool false, .slice none 0 0], .bool false]) ?_ rfl ⟨_, _, _, rfl, by rw [show digs (vO none).natAbs = [] from digs_zero]; exact Sl.none_, ?_⟩
        · simp [results, Tryz.f20, go_sem, q0, q1]
        · exact (s7.below.setCell (by simp) _).setCell (by simp) _
    | cons b r =>
      have hrl : r.length + 1 ≤ 640 := hr3
      clear hr3
      obtain ⟨k, hk⟩ : ∃ k, r.length % 9 + 1 = k := ⟨_, rfl⟩
      have hk9 : 1 ≤ k ∧ k ≤ 9 ∧ k ≤ r.length + 1 := by have := Nat.mod_le r.length 9; omega
      by_cases hD : AllD ((b :: r).take k)
      · have PO := Lib.hid (piece_ok ((b :: r).take k) (by simp; omega) (by intro e; simp at e; omega) hD)
        have hdv := dval_lt hD
        obtain ⟨u, hu⟩ : ∃ u, dval ((b :: r).take k) = u := ⟨_, rfl⟩
        rw [hu] at PO hdv
        have hu9 : u < 1000000000 := Nat.lt_of_lt_of_le hdv (Nat.pow_le_pow_right (n := 10) (i := _) (j := 9) (by decide) (by simp; omega))
        have hu9i : (u : Int) < 1000000000 := by omega
        clear hdv
        go_wp2_with (first
          | (go_at_call 44; rw [ext_take, hk]; (with_reducible refine (PO.out _).mono ?_); rintro e w3 ⟨rfl, hb3⟩; have sr2 := sr.via hb3)
          | fail "no arm")
        have TI : Hid (Calls Tryz.prog 41 #[.slice A3 n3 c3, .slice (some ⟨w3.heap.size, 0, none⟩) 1 1] (w3.alloc (.cells #[.int .u32 1000000000] 40)) (RetD (p * 1000000000) (w3.alloc (.cells #[.int .u32 1000000000] 40)))) := by
          have d1 : DBk (w3.alloc (.cells #[.int .u32 1000000000] 40)) w3.heap.size 40 [1000000000] := heap_alloc_at w3 _ _ rfl
          have b1 : Below wr.heap.size wr (w3.alloc (.cells #[.int .u32 1000000000] 40)) := hb3.alloc hb3.size _
          have := times_any A3 (some ⟨w3.heap.size, 0, none⟩) n3 c3 1 1 (w3.alloc (.cells #[.int .u32 1000000000] 40)).heap.size (digs p) [1000000000] _ ((hI.out.1.below b1).more b1.size) (d1.sl (by intro d hd; simp at hd; omega) (by simp) (by simp)) (Nat.le_refl _) (by omega) (by omega)
          rw [nval_digs, show nval [1000000000] = 1000000000 from rfl] at this
          exact Lib.hid this
        have b1 : Below wr.heap.size wr (w3.alloc (.cells #[.int .u32 1000000000] 40)) := hb3.alloc hb3.size _
        have PL : Hid (∀ (W : World) (A4 : Option Addr) (n4 c4 : Nat), Sl W W.heap.size A4 n4 c4 (digs (p * 1000000000)) → Calls Tryz.prog 26 #[.slice A4 n4 c4, .slice (some ⟨W.heap.size, 0, none⟩) 1 1] (W.alloc (.cells #[.int .u32 (u : Nat)] 40)) (RetD (p * 1000000000 + u) (W.alloc (.cells #[.int .u32 (u : Nat)] 40)))) := Lib.hid fun W A4 n4 c4 hs => by
          have d1 : DBk (W.alloc (.cells #[.int .u32 (u : Nat)] 40)) W.heap.size 40 [u] := heap_alloc_at W _ _ rfl
          have b1 : Below W.heap.size W (W.alloc (.cells #[.int .u32 (u : Nat)] 40)) := (Below.refl _ _).alloc (Nat.le_refl _) _
          have h4 := prI_mul hI.out hlen.out
          rw [hs.len] at h4
          have := plus_any (B := (W.alloc (.cells #[.int .u32 (u : Nat)] 40)).heap.size) ((hs.below b1).more b1.size) (d1.sl (by intro d hd; simp at hd; omega) (by simp) (by simp)) (Nat.le_refl _) h4 (by simp)
          rw [nval_digs, show nval [u] = u by simp [nval]] at this
          exact this
        go_wp2_with (first
          | (go_at_call 41; (with_reducible refine (TI.out).mono ?_); rintro e w4 ⟨A4, n4, c4, rfl, hs4, hb4⟩; have sr3 := (sr2.via ((Below.refl _ _).alloc (Nat.le_refl _) (.cells #[.int .u32 1000000000] 40))).via hb4)
          | (go_at_call 26; (with_reducible refine (PL.out _ _ _ _ hs4).mono ?_); rintro e w5 ⟨A5, n5, c5, rfl, hs5, hb5⟩; have sr4 := (sr3.via ((Below.refl _ _).alloc (Nat.le_refl _) (.cells #[.int .u32 (u : Nat)] 40))).via hb5)
          | fail "no arm")
        rw [hk, ext_drop _ _ _ (by simp)]
        refine ⟨⟨(b :: r).drop k, A5, n5, c5, p * 1000000000 + u, pre ++ (b :: r).take k, rfl, rfl, sr4, Lib.hid (prI_step hI.out hk hD hu hs5)⟩, ?_⟩
        simp [ByteArray.size]
        omega
      · have PB := Lib.hid (piece_bad ((b :: r).take k) (by simp; omega) (by intro e; simp at e; omega) hD wr (HS.out.below sr.below hB))
        have hp : Hid (parseS s = none) := Lib.hid (parseS_bad (by
          rw [hI.out.2.1]
          intro h
          have h1 := (allD_append.1 h).2
          rw [← List.take_append_drop k (b :: r)] at h1
          exact hD (allD_append.1 h1).1))
        go_wp2_with (first
          | (go_at_call 44; rw [ext_take]; (try rw [hk]); (with_reducible refine (PB.out).mono ?_); rintro e w3 ⟨te, pe, rfl, hb3⟩; have sr2 := sr.via hb3; obtain ⟨r0, r1⟩ := sr2.facts; obtain ⟨rf, rz⟩ := sr2.frz)
          | fail "no arm")
        obtain ⟨q0, q1⟩ := two_set (.bool false) (.slice none 0 0) r0 r1
        rw [hp.out]
        refine bodyPost_ret (v := .tuple #[.agg #[.bool false, .slice none 0 0], .bool false]) ?_ rfl ⟨_, _, _, rfl, by rw [show digs (vO none).natAbs = [] from digs_zero]; exact Sl.none_, ?_⟩
        · simp [results, Tryz.f20, go_sem, q0, q1]
        · exact (sr2.below.setCell (by simp) _).setCell (by simp) _

theorem parse_any (s : List UInt8) (w : World) {B : Nat} (hB : B ≤ w.heap.size) (hT : PowT B w) (hS : SynT B w) :
    Calls Tryz.prog 20 #[.string ⟨s.toArray⟩] w (RetN (parseS s) w) := by
  by_cases h0 : cutR s = []
  · rw [parseS_empty h0]; exact parse_empty s w h0
  · rcases Nat.lt_or_ge 640 (cutR s).length with h | h
    · rw [parseS_long h]; exact parse_long s w h
    · exact parse_main s w hB hT hS h0 h
end Go.Proofs.YthnickjbknpmhaaGreatDoor
