/-
  The contract of the reference's Made: the number that a list of ints makes.
-/
import Derived.Test.YthnickjbknpmhaaGreatDoorNumSig
import Derived.Test.YthnickjbknpmhaaGreatDoorNumParse
namespace Go.Proofs.YthnickjbknpmhaaGreatDoor
open Go.RowKit Go.Shelf

theorem OwnD.pushed {W w1 : World} {base g cap d : Nat} {v : Value} {l : List Nat} (hO : OwnD W base v l) (hd : d < 4294967296)
    (h1 : w1.ownsRow base 40 1 (.slice (some ⟨g, 0, none⟩) (l.length + 1) cap) (l.length + 1) (u32s l ++ [.int .u32 (d : Nat)])) (hg : W.grownBy w1 v.ownBlock) (hb : base ≤ W.heap.size) :
    OwnD w1 base (.slice (some ⟨g, 0, none⟩) (l.length + 1) cap) (l ++ [d]) ∧ Below base W w1 := by
  refine ⟨⟨?_, dig_append.2 ⟨hO.2, fun x hx => by rw [List.mem_singleton.1 hx]; exact hd⟩⟩, ?_⟩
  · rw [List.length_append, List.length_singleton, show u32s (l ++ [d]) = u32s l ++ [.int .u32 (d : Nat)] by simp [u32s]]
    exact h1
  · refine (Below.refl base W).grown hg hb (fun k e => ?_)
    obtain ⟨⟨_, h2⟩, _⟩ := hO
    rcases h2 with ⟨rfl, _⟩ | ⟨g', cap', cur, rfl, h4, _⟩
    · cases e
    · cases e; exact h4

/-- The digits, the sign and the number that a list makes. -/
def dig32 (z : Int) : Nat := (z % 4294967296).toNat
def madeD (zs : List Int) (k : Nat) : List Nat := ((zs.take k).drop 1).map dig32
def madeB (zs : List Int) : Bool := match zs with
  | [] => false
  | z :: _ => decide (z.tmod 2 ≠ 0)
def madeV (zs : List Int) : Int := sgn (madeB zs) (nval (madeD zs 7))
theorem dig32_lt (z : Int) : dig32 z < 4294967296 := by unfold dig32; omega
theorem dig32_wrap (z : Int) : IntKind.u32.wrap z = ((dig32 z : Nat) : Int) := by rw [IntKind.wrap_u32]; unfold dig32; omega
theorem madeD_one (zs : List Int) : madeD zs 1 = [] := by cases zs <;> rfl
theorem madeD_succ {zs : List Int} {k : Nat} (hk : k < zs.length) (h1 : 1 ≤ k) : madeD zs (k + 1) = madeD zs k ++ [dig32 zs[k]] := by
  unfold madeD
  rw [List.take_succ_eq_append_getElem hk, List.drop_append_of_le_length (by rw [List.length_take]; omega)]
  simp
theorem madeD_len (zs : List Int) (k : Nat) : (madeD zs k).length ≤ k - 1 := by unfold madeD; simp; omega
theorem madeD_end {zs : List Int} {k : Nat} (h : ¬ (k < zs.length ∧ k < 7)) (hk : k ≤ 7) (h1 : 1 ≤ k) : madeD zs k = madeD zs 7 := by
  unfold madeD
  rcases Nat.lt_or_ge k 7 with h7 | h7
  · rw [List.take_of_length_le (by omega : zs.length ≤ k), List.take_of_length_le (by omega : zs.length ≤ 7)]
  · rw [show k = 7 by omega]
theorem madeD_dig (zs : List Int) (k : Nat) : Dig (madeD zs k) := fun d hd => by
  obtain ⟨z, _, rfl⟩ := List.mem_map.1 hd
  exact dig32_lt z
theorem madeD_small (zs : List Int) : nval (madeD zs 7) < 4294967296 ^ 6 :=
  Nat.lt_of_lt_of_le (nval_lt (madeD_dig zs 7)) (Nat.pow_le_pow_right (by decide) (madeD_len zs 7))
theorem six_big : 4294967296 ^ 6 ≤ big := by unfold big; exact Nat.pow_le_pow_right (by decide) (by decide)
theorem madeV_big (zs : List Int) : (madeV zs).natAbs < big := by
  unfold madeV; rw [sgn_abs]; exact Nat.lt_of_lt_of_le (madeD_small zs) six_big

set_option maxRecDepth 100000 in
set_option maxHeartbeats 2000000 in
theorem made_any (A : Option Addr) (n c B : Nat) (zs : List Int) (w : World) (h : Reads w B 1 A n (zs.map (Value.int .i64))) (hB : B ≤ w.heap.size) (hn : n ≤ 9223372036854775807) :
    Calls Tryz.prog 6 #[.slice A n c] w (RetA (madeV zs) w) := by
  have hln : zs.length = n := by have := h.1; simpa using this
  have s0 := S1.start (w := w) (neg := false) (A := none) (n := 0) (c := 0)
  have H := Lib.hid h
  clear h
  obtain ⟨i0, hi, hz0, hz1, hz2⟩ := info_parts Tryz.infoU32
  go_enter Tryz.func6, Tryz.ntmps6
  go_wp2_with fail
  go_loopw [3, 4] (fun x y W => ∃ k, 1 ≤ k ∧ k ≤ 7 ∧ y = .int .i64 (k : Nat) ∧ S1 w false none 0 0 W ∧ Hid (OwnD W (w.heap.size + 1) x (madeD zs k))) (fun _ y _ => 7 - (intOf y).toNat)
  case atStart => exact ⟨1, by omega, by omega, rfl, s0, Lib.hid (by rw [madeD_one]; exact OwnD.nil _ _)⟩
  case round =>
    obtain ⟨k, hk1, hk7, rfl, sr, hO⟩ := hrel
    by_cases hlt : (k : Int) < n
    · by_cases h7 : (k : Int) < 7
      · obtain ⟨ad, u, rfl, hbl, hu, hc⟩ := (H.out.below (sr.below.mono hB)).at_ (k := k) (by omega)
        have hkl : k < zs.length := by omega
        rw [List.getElem?_map, List.getElem?_eq_getElem hkl] at hu
        have hu2 := Option.some.inj hu
        subst hu2
        have hwr := dig32_wrap zs[k]
        have hd := dig32_lt zs[k]
        have hms := madeD_succ hkl hk1
        have hml := madeD_len zs k
        obtain ⟨z, hz⟩ : ∃ z, zs[k] = z := ⟨_, rfl⟩
        rw [hz] at hc hwr hd hms
        have b1 : Below wr.heap.size wr (wr.alloc (.cells #[.int .u32 (dig32 z : Nat)] 40)) := (Below.refl _ _).alloc (Nat.le_refl _) _
        have hO1 := Lib.hid (hO.out.below b1 (Nat.le_refl _))
        have hnews : ∀ j u, [Value.int .u32 (dig32 z : Nat)][j]? = some u → (wr.alloc (.cells #[.int .u32 (dig32 z : Nat)] 40)).cell? ((⟨wr.heap.size, 0, none⟩ : Addr).add j) = some u := by
          intro j u hj
          match j, hj with
          | 0, hj => simp at hj; subst hj; simp [Addr.add]
        have hcl : ∀ u ∈ [Value.int .u32 (dig32 z : Nat)], u.oneCell' = true := by intro u hu; simp at hu; subst hu; rfl
        have hmx : (madeD zs k).length + 1 ≤ maxLen := by unfold maxLen; omega
        have hby2 : ((madeD zs k).length + 1) * 4 ≤ 140737488355328 := by omega
        have hbs : w.heap.size + 1 ≤ (wr.alloc (.cells #[.int .u32 (dig32 z : Nat)] 40)).heap.size := by have := sr.size; simp; omega
        have sr1 := sr.via b1
        clear hu hz hml
        go_wp2_with (first
          | (at_builtin; refine wpList_append_lies _ rfl _ _ 24 rfl (w.heap.size + 1) 40 i0 (.int .u32 0) 1 4 Tryz.underlying24 hi hz0 hz1 hz2 rfl (by decide) _ _ _ rfl hO1.out.1 ⟨wr.heap.size, 0, none⟩ 1 1 [.int .u32 (dig32 z : Nat)] rfl rfl hnews hcl (by decide) hmx hby2 hbs _ rfl ?_; intro g cap w1 hown' hgrow _ hlt; have hP := Lib.hid (hO1.out.pushed hd hown' hgrow hbs); clear hown' hgrow)
          | fail "no arm")
        refine ⟨⟨k + 1, by omega, by omega, rfl, Below.trans sr1 hP.out.2, Lib.hid (by rw [hms]; exact hP.out.1)⟩, ?_⟩
        simp only [intOf]
        omega
      · have hend : ¬ (k < zs.length ∧ k < 7) := by omega
        have hme : madeD zs k = madeD zs 7 := madeD_end (hend) hk7 hk1
        cases zs with
        | nil =>
          exfalso
          rw [← hln] at hlt
          simp at hlt
          omega
        | cons z0 zs =>
          obtain ⟨ad, u, rfl, hbl, hu, hc⟩ := (H.out.below (sr.below.mono hB)).at_ (k := 0) (by rw [← hln]; simp)
          simp at hu
          subst hu
          rw [show ad.add 0 = ad by simp [Addr.add]] at hc
          have hn0 : (0 : Int) < n := by (have h0 : 0 < (z0 :: zs).length := Nat.succ_pos _); omega
          have hnn : 0 < n := by omega
          by_cases hz0' : z0.tmod 2 = 0
          · have hmb : madeB (z0 :: zs) = false := by simp [madeB, hz0']
            obtain ⟨A2, c2, rfl, hsl, _⟩ := hO.out.sl
            have hx : Hid (sgn false (nval (madeD (z0 :: zs) k)) = madeV (z0 :: zs)) := Lib.hid (by unfold madeV; rw [hmb, hme])
            have SG : Hid (Calls Tryz.prog 23 #[.bool false, .slice A2 (madeD (z0 :: zs) k).length c2] wr (RetN (some (madeV (z0 :: zs))) wr)) := by
              have := signed_any A2 (madeD (z0 :: zs) k).length c2 wr.heap.size _ false _ wr hsl (Nat.le_refl _) rfl
              rw [hx.out, show fitO (madeV (z0 :: zs)) = some (madeV (z0 :: zs)) by unfold fitO; rw [if_pos (madeV_big (z0 :: zs))]] at this
              exact Lib.hid this
            clear hme hO hsl hx hmb
            go_wp2_with (first
              | (go_at_call 23; (with_reducible refine (SG.out).mono ?_); rintro e w2 hr; obtain ⟨A6, n6, c6, rfl, hs6, hb6⟩ := retN_some hr; have s6 := sr.via hb6; have s7 := s6.via ((Below.refl _ _).alloc (Nat.le_refl _) (.cells #[.bool (decide (madeV (z0 :: zs) < 0)), .slice A6 n6 c6] 26)); obtain ⟨r0, r1⟩ := s7.facts; obtain ⟨rf, rz⟩ := s7.frz)
              | fail "no arm")
            obtain ⟨q0, q1⟩ := two_set (.bool (decide (madeV (z0 :: zs) < 0))) (.slice A6 n6 c6) r0 r1
            refine bodyPost_ret (v := .agg #[.bool (decide (madeV (z0 :: zs) < 0)), .slice A6 n6 c6]) ?_ rfl ⟨A6, n6, c6, rfl, ?_, ?_⟩
            · simp [results, Tryz.f6, go_sem, q0, q1]
            · exact (hs6.alloc_ _).stored r0 r1 _ _
            · exact (s7.below.setCell (by simp) _).setCell (by simp) _
          · have hmb : madeB (z0 :: zs) = true := by simp [madeB, hz0']
            have hzq : (z0.tmod 2 != 0) = true := by simp; exact hz0'
            obtain ⟨A2, c2, rfl, hsl, _⟩ := hO.out.sl
            have hx : Hid (sgn true (nval (madeD (z0 :: zs) k)) = madeV (z0 :: zs)) := Lib.hid (by unfold madeV; rw [hmb, hme])
            have SG : Hid (Calls Tryz.prog 23 #[.bool true, .slice A2 (madeD (z0 :: zs) k).length c2] wr (RetN (some (madeV (z0 :: zs))) wr)) := by
              have := signed_any A2 (madeD (z0 :: zs) k).length c2 wr.heap.size _ true _ wr hsl (Nat.le_refl _) rfl
              rw [hx.out, show fitO (madeV (z0 :: zs)) = some (madeV (z0 :: zs)) by unfold fitO; rw [if_pos (madeV_big (z0 :: zs))]] at this
              exact Lib.hid this
            clear hme hO hsl hx hmb
            go_wp2_with (first
              | (go_at_call 23; (with_reducible refine (SG.out).mono ?_); rintro e w2 hr; obtain ⟨A6, n6, c6, rfl, hs6, hb6⟩ := retN_some hr; have s6 := sr.via hb6; have s7 := s6.via ((Below.refl _ _).alloc (Nat.le_refl _) (.cells #[.bool (decide (madeV (z0 :: zs) < 0)), .slice A6 n6 c6] 26)); obtain ⟨r0, r1⟩ := s7.facts; obtain ⟨rf, rz⟩ := s7.frz)
              | fail "no arm")
            obtain ⟨q0, q1⟩ := two_set (.bool (decide (madeV (z0 :: zs) < 0))) (.slice A6 n6 c6) r0 r1
            refine bodyPost_ret (v := .agg #[.bool (decide (madeV (z0 :: zs) < 0)), .slice A6 n6 c6]) ?_ rfl ⟨A6, n6, c6, rfl, ?_, ?_⟩
            · simp [results, Tryz.f6, go_sem, q0, q1]
            · exact (hs6.alloc_ _).stored r0 r1 _ _
            · exact (s7.below.setCell (by simp) _).setCell (by simp) _
    · have hend : ¬ (k < zs.length ∧ k < 7) := by omega
      have hme : madeD zs k = madeD zs 7 := madeD_end (hend) hk7 hk1
      cases zs with
      | nil =>
        obtain rfl : n = 0 := by rw [← hln]; rfl
        have hmb : madeB [] = false := rfl
        obtain ⟨A2, c2, rfl, hsl, _⟩ := hO.out.sl
        have hx : Hid (sgn false (nval (madeD [] k)) = madeV []) := Lib.hid (by unfold madeV; rw [hmb, hme])
        have SG : Hid (Calls Tryz.prog 23 #[.bool false, .slice A2 (madeD [] k).length c2] wr (RetN (some (madeV [])) wr)) := by
          have := signed_any A2 (madeD [] k).length c2 wr.heap.size _ false _ wr hsl (Nat.le_refl _) rfl
          rw [hx.out, show fitO (madeV []) = some (madeV []) by unfold fitO; rw [if_pos (madeV_big [])]] at this
          exact Lib.hid this
        clear hme hO hsl hx hmb
        go_wp2_with (first
          | (go_at_call 23; (with_reducible refine (SG.out).mono ?_); rintro e w2 hr; obtain ⟨A6, n6, c6, rfl, hs6, hb6⟩ := retN_some hr; have s6 := sr.via hb6; have s7 := s6.via ((Below.refl _ _).alloc (Nat.le_refl _) (.cells #[.bool (decide (madeV [] < 0)), .slice A6 n6 c6] 26)); obtain ⟨r0, r1⟩ := s7.facts; obtain ⟨rf, rz⟩ := s7.frz)
          | fail "no arm")
        obtain ⟨q0, q1⟩ := two_set (.bool (decide (madeV [] < 0))) (.slice A6 n6 c6) r0 r1
        refine bodyPost_ret (v := .agg #[.bool (decide (madeV [] < 0)), .slice A6 n6 c6]) ?_ rfl ⟨A6, n6, c6, rfl, ?_, ?_⟩
        · simp [results, Tryz.f6, go_sem, q0, q1]
        · exact (hs6.alloc_ _).stored r0 r1 _ _
        · exact (s7.below.setCell (by simp) _).setCell (by simp) _
      | cons z0 zs =>
        obtain ⟨ad, u, rfl, hbl, hu, hc⟩ := (H.out.below (sr.below.mono hB)).at_ (k := 0) (by rw [← hln]; simp)
        simp at hu
        subst hu
        rw [show ad.add 0 = ad by simp [Addr.add]] at hc
        have hn0 : (0 : Int) < n := by (have h0 : 0 < (z0 :: zs).length := Nat.succ_pos _); omega
        have hnn : 0 < n := by omega
        by_cases hz0' : z0.tmod 2 = 0
        · have hmb : madeB (z0 :: zs) = false := by simp [madeB, hz0']
          obtain ⟨A2, c2, rfl, hsl, _⟩ := hO.out.sl
          have hx : Hid (sgn false (nval (madeD (z0 :: zs) k)) = madeV (z0 :: zs)) := Lib.hid (by unfold madeV; rw [hmb, hme])
          have SG : Hid (Calls Tryz.prog 23 #[.bool false, .slice A2 (madeD (z0 :: zs) k).length c2] wr (RetN (some (madeV (z0 :: zs))) wr)) := by
            have := signed_any A2 (madeD (z0 :: zs) k).length c2 wr.heap.size _ false _ wr hsl (Nat.le_refl _) rfl
            rw [hx.out, show fitO (madeV (z0 :: zs)) = some (madeV (z0 :: zs)) by unfold fitO; rw [if_pos (madeV_big (z0 :: zs))]] at this
            exact Lib.hid this
          clear hme hO hsl hx hmb
          go_wp2_with (first
            | (go_at_call 23; (with_reducible refine (SG.out).mono ?_); rintro e w2 hr; obtain ⟨A6, n6, c6, rfl, hs6, hb6⟩ := retN_some hr; have s6 := sr.via hb6; have s7 := s6.via ((Below.refl _ _).alloc (Nat.le_refl _) (.cells #[.bool (decide (madeV (z0 :: zs) < 0)), .slice A6 n6 c6] 26)); obtain ⟨r0, r1⟩ := s7.facts; obtain ⟨rf, rz⟩ := s7.frz)
            | fail "no arm")
          obtain ⟨q0, q1⟩ := two_set (.bool (decide (madeV (z0 :: zs) < 0))) (.slice A6 n6 c6) r0 r1
          refine bodyPost_ret (v := .agg #[.bool (decide (madeV (z0 :: zs) < 0)), .slice A6 n6 c6]) ?_ rfl ⟨A6, n6, c6, rfl, ?_, ?_⟩
          · simp [results, Tryz.f6, go_sem, q0, q1]
          · exact (hs6.alloc_ _).stored r0 r1 _ _
          · exact (s7.below.setCell (by simp) _).setCell (by simp) _
        · have hmb : madeB (z0 :: zs) = true := by simp [madeB, hz0']
          have hzq : (z0.tmod 2 != 0) = true := by simp; exact hz0'
          obtain ⟨A2, c2, rfl, hsl, _⟩ := hO.out.sl
          have hx : Hid (sgn true (nval (madeD (z0 :: zs) k)) = madeV (z0 :: zs)) := Lib.hid (by unfold madeV; rw [hmb, hme])
          have SG : Hid (Calls Tryz.prog 23 #[.bool true, .slice A2 (madeD (z0 :: zs) k).length c2] wr (RetN (some (madeV (z0 :: zs))) wr)) := by
            have := signed_any A2 (madeD (z0 :: zs) k).length c2 wr.heap.size _ true _ wr hsl (Nat.le_refl _) rfl
            rw [hx.out, show fitO (madeV (z0 :: zs)) = some (madeV (z0 :: zs)) by unfold fitO; rw [if_pos (madeV_big (z0 :: zs))]] at this
            exact Lib.hid this
          clear hme hO hsl hx hmb
          go_wp2_with (first
            | (go_at_call 23; (with_reducible refine (SG.out).mono ?_); rintro e w2 hr; obtain ⟨A6, n6, c6, rfl, hs6, hb6⟩ := retN_some hr; have s6 := sr.via hb6; have s7 := s6.via ((Below.refl _ _).alloc (Nat.le_refl _) (.cells #[.bool (decide (madeV (z0 :: zs) < 0)), .slice A6 n6 c6] 26)); obtain ⟨r0, r1⟩ := s7.facts; obtain ⟨rf, rz⟩ := s7.frz)
            | fail "no arm")
          obtain ⟨q0, q1⟩ := two_set (.bool (decide (madeV (z0 :: zs) < 0))) (.slice A6 n6 c6) r0 r1
          refine bodyPost_ret (v := .agg #[.bool (decide (madeV (z0 :: zs) < 0)), .slice A6 n6 c6]) ?_ rfl ⟨A6, n6, c6, rfl, ?_, ?_⟩
          · simp [results, Tryz.f6, go_sem, q0, q1]
          · exact (hs6.alloc_ _).stored r0 r1 _ _
          · exact (s7.below.setCell (by simp) _).setCell (by simp) _
end Go.Proofs.YthnickjbknpmhaaGreatDoor
