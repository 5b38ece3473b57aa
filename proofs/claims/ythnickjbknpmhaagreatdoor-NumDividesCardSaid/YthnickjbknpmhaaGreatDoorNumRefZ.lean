/-
  The contracts of the reference's at, Right and plus.
  The contract of the reference's times.
  The contracts of the reference's compare and minus.
  Binary digits of numbers: plain facts for the reference's long division.
  The contracts of the reference's bit, length and word.
  The contracts of the reference's digits, twice and without.
  The contracts of the reference's Mul, Add, Sub, Int and Cmp.
  The contracts of the reference's negated and Sub.
-/
import Derived.Test.YthnickjbknpmhaaGreatDoorNumMade
import Derived.Test.YthnickjbknpmhaaGreatDoorNumI
import Derived.WalkKit
namespace Go.Proofs.YthnickjbknpmhaaGreatDoor
open Go.RowKit Go.Shelf

theorem reftrim_val {A : Option Addr} {n c B v : Nat} {l : List Nat} {w : World} (h : Sl w B A n c l) (hv : nval l = v) :
    Calls Tryz.prog 48 #[.slice A n c] w fun e w' => ∃ n', e = .returned (.slice A n' c) ∧ Sl w B A n' c (digs v) ∧ w = w' :=
  (reftrim_any A n c B l w h.1 h.2.1 h.2.2).mono fun _ _ ⟨he, hw⟩ => ⟨_, he, h.val hv, hw⟩

theorem at_any {A : Option Addr} {n c B k : Nat} {l : List Nat} {w : World} (h : Sl w B A n c l) :
    Calls Tryz.prog 64 #[.slice A n c, .int .i64 (k : Int)] w fun e w' => e = .returned (.int .u64 (dg l k : Nat)) ∧ w = w' := by
  have HL := Lib.hid h.len
  go_enter Tryz.func64, Tryz.ntmps64
  by_cases hk : (k : Int) < n
  · obtain ⟨ad, rfl, hb, hc⟩ := h.at_ (k := k) (by omega)
    have hd := dg_lt h.dig k
    have e1 : IntKind.u64.wrap (dg l k : Int) = (dg l k : Nat) := by rw [IntKind.wrap_u64]; omega
    clear h
    go_wp2
    go_ret
    exact ⟨ret_int (by omega), rfl⟩
  · have e := dg_past (l := l) (k := k) (by have := HL.out; omega)
    clear h
    go_wp2
    go_ret
    exact ⟨rfl, rfl⟩

set_option maxHeartbeats 400000 in
theorem refright_any (neg : Bool) (A : Option Addr) (n c B : Nat) (l : List Nat) (w : World) (h : RD w B A n l) (hB : B ≤ w.heap.size) (hn : n ≤ c) :
    Calls Tryz.prog 29 #[.agg #[.bool neg, .slice A n c]] w fun e w' => e = .returned (.bool (rightB neg l)) ∧ Below w.heap.size w w' := by
  have HL := Lib.hid h.len
  have H := Lib.hid h
  clear h
  go_enter Tryz.func29, Tryz.ntmps29
  cases n with
  | zero =>
    cases neg <;> go_wp2
    all_goals go_ret
    all_goals refine ⟨ret_bool ?_, by go_grown⟩
    all_goals rw [rightB_nil HL.out]
    all_goals rfl
  | succ j =>
    obtain ⟨ad, hl, rfl, hb, hc, hd⟩ := H.out.at_ (k := j) (by omega)
    have R := Lib.hid (rightB_cons (neg := neg) HL.out hl)
    have hca : ∀ o, (w.alloc o).cell? (ad.add j) = some (.int .u32 (l[j] : Nat)) := fun o => (World.cell?_alloc_lt w o _ (by rw [block_of_add]; omega)).trans hc
    clear hc hb hd
    by_cases h64 : (j : Int) + 1 ≤ 64
    · by_cases hz : l[j] = 0
      · rw [hz] at hca R
        go_wp2
        all_goals go_ret
        all_goals refine ⟨ret_bool ?_, by go_grown⟩
        all_goals rw [R.out]
        all_goals simp
      · have hz' : ((l[j] : Int) != 0) = true := by simp; exact hz
        go_wp2
        all_goals go_ret
        all_goals refine ⟨ret_bool ?_, by go_grown⟩
        all_goals rw [R.out]
        all_goals simp [hz]
        all_goals omega
    · go_wp2
      all_goals go_ret
      all_goals refine ⟨ret_bool ?_, by go_grown⟩
      all_goals rw [R.out]
      all_goals simp
      all_goals omega

theorem slice_inj {A A2 : Option Addr} {n c n2 c2 : Nat} (h : Value.slice A n c = .slice A2 n2 c2) : A = A2 ∧ n = n2 ∧ c = c2 := by cases h; exact ⟨rfl, rfl, rfl⟩
theorem OwnD.sl_len {w : World} {base g n cap : Nat} {l : List Nat} {d : Nat} (h : OwnD w base (.slice (some ⟨g, 0, none⟩) (n + 1) cap) (l ++ [d])) : Sl w w.heap.size (some ⟨g, 0, none⟩) (n + 1) cap (l ++ [d]) := by
  obtain ⟨A3, c3, he3, hs3, _⟩ := h.sl
  obtain ⟨rfl, h3, rfl⟩ := slice_inj he3
  rw [← h3] at hs3
  exact hs3
/-- A step of the sum. -/
theorem sum_step {O P P' L M d cy x y cy' : Nat} (hp : P' = P * 4294967296) (hd : d + 4294967296 * cy' = cy + x + y) (h : O + P * cy = L + M) : O + P * d + P' * cy' = (L + P * x) + (M + P * y) := by
  subst hp
  have h1 : P * (d + 4294967296 * cy') = P * (cy + x + y) := by rw [hd]
  simp only [Nat.mul_add, ← Nat.mul_assoc] at h1
  omega
theorem sum_int {cy x y : Nat} (h0 : cy < 4294967296) (h1 : x < 4294967296) (h2 : y < 4294967296) :
    IntKind.u64.wrap (IntKind.u64.wrap ((cy : Int) + x) + y) = ((cy + x + y : Nat) : Int) := by
  rw [IntKind.wrap_u64, IntKind.wrap_u64]; omega
theorem shr32 (s : Nat) : (s : Int) / 4294967296 = ((s / 4294967296 : Nat) : Int) := by omega

set_option maxRecDepth 100000 in
set_option maxHeartbeats 2000000 in
theorem refplus_any (A A2 : Option Addr) (n c n2 c2 B : Nat) (l m : List Nat) (w : World) (h : Sl w B A n c l) (h2 : Sl w B A2 n2 c2 m) (hB : B ≤ w.heap.size) (hn : n ≤ 1000) (hn2 : n2 ≤ 1000) :
    Calls Tryz.prog 31 #[.slice A n c, .slice A2 n2 c2] w (RetD (nval l + nval m) w) := by
  have HL := Lib.hid h.len
  have HL2 := Lib.hid h2.len
  have H := Lib.hid h
  have H2 := Lib.hid h2
  clear h h2
  obtain ⟨i0, hi, hz0, hz1, hz2⟩ := info_parts Tryz.infoU32
  have AT := Lib.hid (fun (W : World) (hW : Below w.heap.size w W) (k : Nat) => at_any (k := k) (H.out.below (hW.mono hB)))
  have AT2 := Lib.hid (fun (W : World) (hW : Below w.heap.size w W) (k : Nat) => at_any (k := k) (H2.out.below (hW.mono hB)))
  go_enter Tryz.func31, Tryz.ntmps31
  go_wp2_with fail
  go_loopw [5, 6, 7] (fun x y z W => ∃ (k cy : Nat) (o : List Nat), k ≤ 1000 ∧ cy < 4294967296 ∧ y = .int .u64 cy ∧ z = .int .i64 k ∧ Below w.heap.size w W ∧ Hid (OwnD W w.heap.size x o ∧ o.length = k ∧ nval o + 4294967296 ^ k * cy = nval (l.take k) + nval (m.take k))) (fun _ _ z _ => 1000 - (intOf z).toNat)
  case atStart => exact ⟨0, 0, [], by omega, by omega, rfl, rfl, Below.refl _ _, Lib.hid ⟨OwnD.nil _ _, rfl, by simp [nval]⟩⟩
  case round =>
    obtain ⟨k, cy, o, hk, hcy, rfl, rfl, hBB, hI⟩ := hrel
    have hd1 := dg_lt H.out.dig k
    have hd2 := dg_lt H2.out.dig k
    by_cases hlt : (k : Int) < n
    · obtain ⟨s, hs⟩ : ∃ s, cy + dg l k + dg m k = s := ⟨_, rfl⟩
      obtain ⟨d, hsd⟩ : ∃ d, s % 4294967296 = d := ⟨_, rfl⟩
      obtain ⟨c', hsc⟩ : ∃ c', s / 4294967296 = c' := ⟨_, rfl⟩
      have ed : ((cy : Int) + (dg l k : Nat) + (dg m k : Nat)) % 4294967296 = (d : Int) := by omega
      have ev : ((cy : Int) + (dg l k : Nat) + (dg m k : Nat)) / 4294967296 = (c' : Int) := by omega
      have hdl : d < 4294967296 := by omega
      have hcl' : c' < 4294967296 := by omega
      have hdm : d + 4294967296 * c' = cy + dg l k + dg m k := by omega
      obtain ⟨hO, hlo, hI2⟩ := hI.out
      have hb0 : Below wr.heap.size wr (wr.alloc (.cells #[.int .u32 (d : Nat)] 40)) := (Below.refl _ _).alloc (Nat.le_refl _) _
      have hb1 := hBB.trans (hb0.mono hBB.size)
      have hO1 := Lib.hid (hO.below hb0 (Nat.le_refl _))
      have hnews : ∀ j u, [Value.int .u32 (d : Nat)][j]? = some u → (wr.alloc (.cells #[.int .u32 (d : Nat)] 40)).cell? ((⟨wr.heap.size, 0, none⟩ : Addr).add j) = some u := by
        intro j u hj
        match j, hj with
        | 0, hj => simp at hj; subst hj; simp [Addr.add]
      have hcl : ∀ u ∈ [Value.int .u32 (d : Nat)], u.oneCell' = true := by intro u hu; simp at hu; subst hu; rfl
      have hmx : o.length + 1 ≤ maxLen := by unfold maxLen; omega
      have hby2 : (o.length + 1) * 4 ≤ 140737488355328 := by omega
      have hbs : w.heap.size ≤ (wr.alloc (.cells #[.int .u32 (d : Nat)] 40)).heap.size := hb1.size
      have hst := Lib.hid (And.intro hlo (And.intro hI2 (And.intro hs hdm)))
      have tk1 : Hid True := trivial
      have tk2 : Hid True := trivial
      clear hO hI hs hsd hsc hdm hlo hI2
      go_wp2_with (first
        | (clear tk1; go_at_call 64; (with_reducible refine (AT.out _ hBB _).mono ?_); rintro e w1 ⟨rfl, rfl⟩)
        | (clear tk2; go_at_call 64; (with_reducible refine (AT2.out _ hBB _).mono ?_); rintro e w1 ⟨rfl, rfl⟩)
        | (at_builtin; refine wpList_append_lies _ rfl _ _ 24 rfl w.heap.size 40 i0 (.int .u32 0) 1 4 Tryz.underlying24 hi hz0 hz1 hz2 rfl (by decide) _ _ _ rfl hO1.out.1 ⟨wr.heap.size, 0, none⟩ 1 1 [.int .u32 (d : Nat)] rfl rfl hnews hcl (by decide) hmx hby2 hbs _ rfl ?_; intro g cap w1 hown' hgrow _ hlt; have hP := Lib.hid (hO1.out.pushed hdl hown' hgrow hbs); clear hown' hgrow)
        | fail "no arm")
      refine ⟨⟨k + 1, c', o ++ [d], by omega, by omega, rfl, rfl, hb1.trans (hP.out.2.mono (Nat.le_refl _)), Lib.hid ⟨hP.out.1, by rw [List.length_append, hst.out.1]; rfl, ?_⟩⟩, ?_⟩
      · rw [nval_snoc, hst.out.1, nval_take_dg l, nval_take_dg m]
        exact sum_step (Nat.pow_succ ..) hst.out.2.2.2 hst.out.2.1
      · simp only [intOf]
        omega
    · by_cases hlt2 : (k : Int) < n2
      · obtain ⟨s, hs⟩ : ∃ s, cy + dg l k + dg m k = s := ⟨_, rfl⟩
        obtain ⟨d, hsd⟩ : ∃ d, s % 4294967296 = d := ⟨_, rfl⟩
        obtain ⟨c', hsc⟩ : ∃ c', s / 4294967296 = c' := ⟨_, rfl⟩
        have ed : ((cy : Int) + (dg l k : Nat) + (dg m k : Nat)) % 4294967296 = (d : Int) := by omega
        have ev : ((cy : Int) + (dg l k : Nat) + (dg m k : Nat)) / 4294967296 = (c' : Int) := by omega
        have hdl : d < 4294967296 := by omega
        have hcl' : c' < 4294967296 := by omega
        have hdm : d + 4294967296 * c' = cy + dg l k + dg m k := by omega
        obtain ⟨hO, hlo, hI2⟩ := hI.out
        have hb0 : Below wr.heap.size wr (wr.alloc (.cells #[.int .u32 (d : Nat)] 40)) := (Below.refl _ _).alloc (Nat.le_refl _) _
        have hb1 := hBB.trans (hb0.mono hBB.size)
        have hO1 := Lib.hid (hO.below hb0 (Nat.le_refl _))
        have hnews : ∀ j u, [Value.int .u32 (d : Nat)][j]? = some u → (wr.alloc (.cells #[.int .u32 (d : Nat)] 40)).cell? ((⟨wr.heap.size, 0, none⟩ : Addr).add j) = some u := by
          intro j u hj
          match j, hj with
          | 0, hj => simp at hj; subst hj; simp [Addr.add]
        have hcl : ∀ u ∈ [Value.int .u32 (d : Nat)], u.oneCell' = true := by intro u hu; simp at hu; subst hu; rfl
        have hmx : o.length + 1 ≤ maxLen := by unfold maxLen; omega
        have hby2 : (o.length + 1) * 4 ≤ 140737488355328 := by omega
        have hbs : w.heap.size ≤ (wr.alloc (.cells #[.int .u32 (d : Nat)] 40)).heap.size := hb1.size
        have hst := Lib.hid (And.intro hlo (And.intro hI2 (And.intro hs hdm)))
        have tk1 : Hid True := trivial
        have tk2 : Hid True := trivial
        clear hO hI hs hsd hsc hdm hlo hI2
        go_wp2_with (first
          | (clear tk1; go_at_call 64; (with_reducible refine (AT.out _ hBB _).mono ?_); rintro e w1 ⟨rfl, rfl⟩)
          | (clear tk2; go_at_call 64; (with_reducible refine (AT2.out _ hBB _).mono ?_); rintro e w1 ⟨rfl, rfl⟩)
          | (at_builtin; refine wpList_append_lies _ rfl _ _ 24 rfl w.heap.size 40 i0 (.int .u32 0) 1 4 Tryz.underlying24 hi hz0 hz1 hz2 rfl (by decide) _ _ _ rfl hO1.out.1 ⟨wr.heap.size, 0, none⟩ 1 1 [.int .u32 (d : Nat)] rfl rfl hnews hcl (by decide) hmx hby2 hbs _ rfl ?_; intro g cap w1 hown' hgrow _ hlt; have hP := Lib.hid (hO1.out.pushed hdl hown' hgrow hbs); clear hown' hgrow)
          | fail "no arm")
        refine ⟨⟨k + 1, c', o ++ [d], by omega, by omega, rfl, rfl, hb1.trans (hP.out.2.mono (Nat.le_refl _)), Lib.hid ⟨hP.out.1, by rw [List.length_append, hst.out.1]; rfl, ?_⟩⟩, ?_⟩
        · rw [nval_snoc, hst.out.1, nval_take_dg l, nval_take_dg m]
          exact sum_step (Nat.pow_succ ..) hst.out.2.2.2 hst.out.2.1
        · simp only [intOf]
          omega
      · have hend : n ≤ k ∧ n2 ≤ k := by omega
        have hfin : Hid (nval (l.take k) + nval (m.take k) = nval l + nval m) := by unfold Hid; rw [List.take_of_length_le (by have := HL.out; omega), List.take_of_length_le (by have := HL2.out; omega)]
        have ed : (cy : Int) % 4294967296 = (cy : Int) := by omega
        obtain ⟨hO, hlo, hI2⟩ := hI.out
        have hb0 : Below wr.heap.size wr (wr.alloc (.cells #[.int .u32 (cy : Nat)] 40)) := (Below.refl _ _).alloc (Nat.le_refl _) _
        have hb1 := hBB.trans (hb0.mono hBB.size)
        have hO1 := Lib.hid (hO.below hb0 (Nat.le_refl _))
        have hnews : ∀ j u, [Value.int .u32 (cy : Nat)][j]? = some u → (wr.alloc (.cells #[.int .u32 (cy : Nat)] 40)).cell? ((⟨wr.heap.size, 0, none⟩ : Addr).add j) = some u := by
          intro j u hj
          match j, hj with
          | 0, hj => simp at hj; subst hj; simp [Addr.add]
        have hcl : ∀ u ∈ [Value.int .u32 (cy : Nat)], u.oneCell' = true := by intro u hu; simp at hu; subst hu; rfl
        have hmx : o.length + 1 ≤ maxLen := by unfold maxLen; omega
        have hby2 : (o.length + 1) * 4 ≤ 140737488355328 := by omega
        have hbs : w.heap.size ≤ (wr.alloc (.cells #[.int .u32 (cy : Nat)] 40)).heap.size := hb1.size
        have hst := Lib.hid (And.intro hlo hI2)
        clear hO hI hlo hI2
        go_wp2_with (first
          | (at_builtin; refine wpList_append_lies _ rfl _ _ 24 rfl w.heap.size 40 i0 (.int .u32 0) 1 4 Tryz.underlying24 hi hz0 hz1 hz2 rfl (by decide) _ _ _ rfl hO1.out.1 ⟨wr.heap.size, 0, none⟩ 1 1 [.int .u32 (cy : Nat)] rfl rfl hnews hcl (by decide) hmx hby2 hbs _ rfl ?_; intro g cap w1 hown' hgrow _ hlt; have hP := Lib.hid (hO1.out.pushed hcy hown' hgrow hbs); have hs5 := Lib.hid hP.out.1.sl_len; clear hown' hgrow)
          | (go_at_call 48; (with_reducible refine (reftrim_val (v := nval l + nval m) hs5.out (by rw [nval_snoc, hst.out.1, hst.out.2, hfin.out])).mono ?_); rintro e w2 ⟨n', rfl, hs4, rfl⟩)
          | fail "no arm")
        go_ret
        exact ⟨_, _, _, rfl, hs4, hb1.trans (hP.out.2.mono (Nat.le_refl _))⟩
end Go.Proofs.YthnickjbknpmhaaGreatDoor

namespace Go.Proofs.YthnickjbknpmhaaGreatDoor
open Go.RowKit Go.Shelf

theorem run_make_u32 (n : Nat) (hn : n ≤ 1000000) : ∀ w, (Instr.makeSlice 24 (.int .i64 (n : Int)) (.int .i64 (n : Int))).run Tryz.prog w = .ok (.slice (some ⟨w.heap.size, 0, none⟩) n n) (w.alloc (.cells (madeCells #[.int .u32 0] n) 40)) :=
  run_make_row' (P := Tryz.prog) 24 40 (.int .u32 0) 4 Tryz.underlying24 Tryz.infoU32 rfl .i64 .i64 n (by omega) (by omega)
theorem mc_ref {cy d x y : Nat} (h1 : cy < 4294967296) (h2 : d < 4294967296) (hx : x < 4294967296) (hy : y < 4294967296) :
    ∃ s : Nat, IntKind.u64.wrap ((cy : Int) + d + IntKind.u64.wrap ((x : Int) * y)) = (s : Int) ∧ (s : Int) % 4294967296 = ((mcD cy d x y : Nat) : Int) ∧ (s : Int) / 4294967296 = ((mcC cy d x y : Nat) : Int) := by
  have h := mul_lt32 hx hy
  have e : (x : Int) * y = ((x * y : Nat) : Int) := by simp
  rw [e]
  unfold mcD mcC
  generalize x * y = z at *
  refine ⟨cy + (d + z), ?_, ?_, ?_⟩
  · rw [IntKind.wrap_u64, IntKind.wrap_u64]; omega
  · omega
  · omega

set_option maxRecDepth 100000 in
set_option maxHeartbeats 2000000 in
theorem reftimes_any (A A2 : Option Addr) (n c n2 c2 B : Nat) (l m : List Nat) (w : World) (h : Sl w B A n c l) (h2 : Sl w B A2 n2 c2 m) (hB : B ≤ w.heap.size) (hn : n ≤ 1000) (hn2 : n2 ≤ 1000) :
    Calls Tryz.prog 66 #[.slice A n c, .slice A2 n2 c2] w (RetD (nval l * nval m) w) := by
  have HL := Lib.hid h.len
  have HL2 := Lib.hid h2.len
  have H := Lib.hid h
  have H2 := Lib.hid h2
  clear h h2
  have hmk := run_make_u32 (n + n2) (by omega)
  have ec : ((n + n2 : Nat) : Int) = (n : Int) + n2 := by omega
  rw [ec] at hmk
  clear ec
  go_enter Tryz.func66, Tryz.ntmps66
  go_wp2
  clear hmk
  go_loopw [6] (fun k wr => ∃ (i : Nat) (o : List Nat), i ≤ n ∧ k = .int .i64 i ∧ DBk wr w.heap.size 40 o ∧ Hid (o.length = n + n2 ∧ Dig o ∧ nval o = nval (l.take i) * nval m ∧ ∀ p, i + n2 ≤ p → dg o p = 0) ∧ Below w.heap.size w wr) (fun k _ => n - (intOf k).toNat)
  case atStart => exact ⟨0, List.replicate (n + n2) 0, by omega, rfl, DBk.new w _ (n + n2), by unfold Hid; exact ⟨by simp, dig_zeros _, by simp [nval, nval_zeros], fun p _ => by unfold dg; simp [List.getD_eq_getElem?_getD, List.getElem?_replicate]; split <;> rfl⟩, by go_grown⟩
  case round =>
    obtain ⟨i, o, hi, rfl, hO, hI, hBw⟩ := hrel
    by_cases hlt : i < n
    · obtain ⟨ad, rfl, hb, hc⟩ := (H.out.below (hBw.mono hB)).at_ (k := i) hlt
      have hd1 := dg_lt H.out.dig i
      have hz := hO.lt
      obtain ⟨x, hx⟩ : ∃ x, dg l i = x := ⟨_, rfl⟩
      rw [hx] at hc hd1
      have HX := Lib.hid hx
      clear hx
      go_wp2
      clear hc
      obtain ⟨wo, hwo⟩ : ∃ wo : World, wo = wr := ⟨_, rfl⟩
      subst hwo
      go_loopw [7, 8] (fun b k wr => ∃ (j cy : Nat) (o : List Nat), j ≤ n2 ∧ cy < 4294967296 ∧ k = .int .i64 j ∧ b = .int .u64 cy ∧ DBk wr w.heap.size 40 o ∧ Hid (o.length = n + n2 ∧ Dig o ∧ nval o + 4294967296 ^ (i + j) * cy = nval (l.take i) * nval m + 4294967296 ^ i * x * nval (m.take j) ∧ ∀ p, i + n2 ≤ p → dg o p = 0) ∧ Below w.heap.size w wr) (fun _ k _ => n2 - (intOf k).toNat)
      case atStart => exact ⟨0, 0, o, by omega, by omega, rfl, rfl, hO, by obtain ⟨i1, i2, i3, i4⟩ := hI.out; unfold Hid; exact ⟨i1, i2, by simp [nval, i3], i4⟩, hBw⟩
      case round =>
        obtain ⟨j, cy, o, hj, hcy, rfl, rfl, hO, hI, hBw⟩ := hrel
        by_cases hlt2 : j < n2
        · obtain ⟨ad2, rfl, hb2, hc2⟩ := (H2.out.below (hBw.mono hB)).at_ (k := j) hlt2
          have hd2 := dg_lt H2.out.dig j
          obtain ⟨ad', e, _, hc⟩ := (H.out.below (hBw.mono hB)).at_ (k := i) hlt
          cases e
          rw [HX.out] at hc
          have hcg := hO.cell (k := i + j) (by rw [hI.out.1]; omega)
          have hfg := hO.frozen (i + j)
          have hd3 := dg_lt hI.out.2.1 (i + j)
          have hz2 := hO.lt
          obtain ⟨d, hd⟩ : ∃ d, dg o (i + j) = d := ⟨_, rfl⟩
          obtain ⟨y, hy⟩ : ∃ y, dg m j = y := ⟨_, rfl⟩
          rw [hd] at hcg hd3
          rw [hy] at hc2 hd2
          have hs := mc_spec hcy hd3 hd1 hd2
          have hN : Hid ((o.set (i + j) (mcD cy d x y)).length = n + n2 ∧ Dig (o.set (i + j) (mcD cy d x y)) ∧ nval (o.set (i + j) (mcD cy d x y)) + 4294967296 ^ (i + (j + 1)) * mcC cy d x y = nval (l.take i) * nval m + 4294967296 ^ i * x * nval (m.take (j + 1)) ∧ ∀ p, i + n2 ≤ p → dg (o.set (i + j) (mcD cy d x y)) p = 0) := by
            obtain ⟨i1, i2, i3, i4⟩ := hI.out
            refine ⟨by simpa using i1, dig_set i2 hs.2.1, ?_, fun p hp => by rw [dg_set_ne (by omega)]; exact i4 p hp⟩
            have hset := nval_set o (i + j) (mcD cy d x y) (by omega)
            rw [hd] at hset
            rw [nval_take_dg m, hy, Nat.mul_add (4294967296 ^ i * x), ← Nat.add_assoc (nval (l.take i) * nval m)]
            refine times_step (P := 4294967296 ^ i) (Nat.pow_succ (n := 4294967296) (m := i + j)) hs.1 hset ?_ i3
            rw [Nat.pow_add, Nat.mul_assoc (4294967296 ^ i) (4294967296 ^ j), Nat.mul_assoc (4294967296 ^ i) x, Nat.mul_left_comm (4294967296 ^ j) x y]
          have hO2 := fun q => DBk.set (show DBk (wr.drewN q) w.heap.size 40 o from hO) (i + j) (mcD cy d x y)
          obtain ⟨s, E, ed, ev⟩ := mc_ref hcy hd3 hd1 hd2
          have hcy2 := hs.2.2
          obtain ⟨c', hc'⟩ : ∃ c', mcC cy d x y = c' := ⟨_, rfl⟩
          obtain ⟨d', hd'⟩ : ∃ d', mcD cy d x y = d' := ⟨_, rfl⟩
          rw [hc'] at ev hcy2 hN
          rw [hd'] at ed hO2 hN
          have hij : IntKind.i64.wrap ((i : Int) + j) = (i : Int) + j := by rw [IntKind.wrap_i64]; omega
          have hij0 : (0 : Int) ≤ (i : Int) + j := by omega
          have hijn : ((i : Int) + j).toNat = i + j := by omega
          have hijl : (i : Int) + j < (n : Int) + n2 := by omega
          have wd : IntKind.u64.wrap (d : Int) = (d : Int) := by rw [IntKind.wrap_u64]; omega
          have wx : IntKind.u64.wrap (x : Int) = (x : Int) := by rw [IntKind.wrap_u64]; omega
          have wy : IntKind.u64.wrap (y : Int) = (y : Int) := by rw [IntKind.wrap_u64]; omega
          clear hO hI hd hy hs hc' hd'
          go_upto_region 9 with fail
          go_quiet (fail)
          go_wp2
          go_roundw
          case rel => exact ⟨j + 1, _, _, by omega, hcy2, by go_num, rfl, hO2 _, hN, (below_drewN hBw _).setCell (by simp) _⟩
          case measure => simp [intOf]; omega
        · have hjn : j = n2 := by omega
          have hz2 := hO.lt
          have hN : Hid ((o.set (i + n2) cy).length = n + n2 ∧ Dig (o.set (i + n2) cy) ∧ nval (o.set (i + n2) cy) = nval (l.take (i + 1)) * nval m ∧ ∀ p, (i + 1) + n2 ≤ p → dg (o.set (i + n2) cy) p = 0) := by
            obtain ⟨i1, i2, i3, i4⟩ := hI.out
            refine ⟨by simpa using i1, dig_set i2 hcy, ?_, fun p hp => by rw [dg_set_ne (by omega)]; exact i4 p (by omega)⟩
            have hset := nval_set o (i + n2) cy (by omega)
            rw [i4 _ (Nat.le_refl _), Nat.mul_zero, Nat.add_zero] at hset
            rw [hset, nval_take_dg l, HX.out, Nat.add_mul, ← hjn, i3]
            rw [List.take_of_length_le (l := m) (by have := HL2.out; omega)]
          have hO2 := hO.set (i + n2) cy
          have hcg := hO.cell (k := i + n2) (by rw [hI.out.1]; omega)
          have hfg := hO.frozen (i + n2)
          have ecy : IntKind.u64.wrap (cy : Int) = cy := by rw [IntKind.wrap_u64]; omega
          have ecy2 : (cy : Int) % 4294967296 = cy := by omega
          clear hO hI hjn
          go_wp2
          go_roundw
          case rel => exact ⟨i + 1, _, by omega, by go_num, hO2, hN, by go_grown⟩
          case measure => simp [intOf]; omega
    · have hin : i = n := by omega
      have hv : Hid (nval o = nval l * nval m) := by
        obtain ⟨i1, i2, i3, i4⟩ := hI.out
        rw [List.take_of_length_le (l := l) (by have := HL.out; omega)] at i3
        exact i3
      have hsl : Sl wr (w.heap.size + 1) (some ⟨w.heap.size, 0, none⟩) (n + n2) (n + n2) o := by
        obtain ⟨i1, i2, i3, i4⟩ := hI.out
        have := hO.sl i2 (B := w.heap.size + 1) (by omega) (by omega)
        rwa [i1] at this
      have hz := hO.lt
      clear hin hO hI
      go_wp2_with (go_at_call 48; refine (reftrim_val hsl hv.out).mono ?_; rintro e w' ⟨n', rfl, hs', rfl⟩)
      go_ret
      exact ⟨_, _, _, rfl, hs'.more (by omega), hBw⟩
end Go.Proofs.YthnickjbknpmhaaGreatDoor

namespace Go.Proofs.YthnickjbknpmhaaGreatDoor
open Go.RowKit Go.Shelf

/-- A call returns digs of a value in a slice of its own. -/
def RetF (v : Nat) (w : World) (e : Ending) (w' : World) : Prop := ∃ A n c, e = .returned (.slice A n c) ∧ Sl w' w'.heap.size A n c (digs v) ∧ Below w.heap.size w w' ∧ (∀ ad, A = some ad → w.heap.size ≤ ad.block)
theorem OwnD.fresh {w : World} {base n c : Nat} {A : Option Addr} {l : List Nat} (h : OwnD w base (.slice A n c) l) : ∀ ad, A = some ad → base ≤ ad.block := by
  obtain ⟨A3, c3, he3, _, hf⟩ := h.sl
  obtain ⟨rfl, _, _⟩ := slice_inj he3
  exact hf
theorem RetF.d {v : Nat} {w w' : World} {e : Ending} (h : RetF v w e w') : RetD v w e w' := by
  obtain ⟨A, n, c, h1, h2, h3, _⟩ := h
  exact ⟨A, n, c, h1, h2, h3⟩
theorem nval_drop_len {l : List Nat} {n : Nat} (h : l.length = n) : nval (l.drop n) = 0 := by rw [List.drop_of_length_le (by omega)]; rfl
theorem canon_len_eq {a b : List Nat} (ha : Canon a) (hb : Canon b) (h : nval a = nval b) : a.length = b.length := by rw [canon_inj ha hb h]

set_option maxRecDepth 100000 in
set_option maxHeartbeats 2000000 in
theorem refcompare_any {A A2 : Option Addr} {n c n2 c2 B : Nat} {l m : List Nat} {w : World} (h : Sl w B A n c l) (h2 : Sl w B A2 n2 c2 m) (hB : B ≤ w.heap.size) (hl : Canon l) (hm : Canon m) :
    Calls Tryz.prog 63 #[.slice A n c, .slice A2 n2 c2] w fun e w' => e = .returned (.int .i64 (cmpv (nval l) (nval m))) ∧ Below w.heap.size w w' := by
  have HL := h.len
  have HL2 := h2.len
  rcases Nat.lt_trichotomy n n2 with h3 | h3 | h3
  · rw [cmpv_lt (canon_len_lt hl.1 hm (by omega))]
    have h4 : (n : Int) < n2 := by omega
    clear h h2 hl hm HL HL2
    go_enter Tryz.func63, Tryz.ntmps63
    go_wp2
    go_ret
    exact ⟨rfl, Below.refl _ _⟩
  · subst h3
    have H := Lib.hid (h.more hB)
    have H2 := Lib.hid (h2.more hB)
    have HC := Lib.hid (And.intro hl.1 hm.1)
    have HLL := Lib.hid (And.intro HL HL2)
    have hn63 : (n : Int) ≤ 9223372036854775807 := by have := h.2; omega
    have H0 := Lib.hid (show nval (l.drop n) = nval (m.drop n) by rw [nval_drop_len HL, nval_drop_len HL2])
    clear h h2 hl hm HL HL2
    go_enter Tryz.func63, Tryz.ntmps63
    go_wp2_with fail
    go_loopw [5] (fun y W => ∃ (j : Nat) (z : Int), j ≤ n ∧ y = .int .i64 z ∧ z = (j : Int) - 1 ∧ Below w.heap.size w W ∧ Hid (nval (l.drop j) = nval (m.drop j))) (fun y _ => (intOf y + 1).toNat)
    case atStart => exact ⟨n, _, by omega, rfl, rfl, Below.refl _ _, H0⟩
    case round =>
      obtain ⟨j, z, hj, rfl, hz, hBB, hI⟩ := hrel
      cases j with
      | zero =>
        obtain rfl : z = -1 := by omega
        clear hz
        have h5 := hI.out
        rw [List.drop_zero, List.drop_zero] at h5
        have h6 := Lib.hid (show cmpv (nval l) (nval m) = 0 by rw [h5, cmpv_eq])
        clear h5 hI
        go_wp2_with fail
        go_ret
        exact ⟨by rw [h6.out]; rfl, hBB⟩
      | succ j =>
        obtain rfl : z = (j : Int) := by omega
        clear hz
        obtain ⟨ad, rfl, hb, hc⟩ := (H.out.below hBB).at_ (k := j) (by omega)
        obtain ⟨ad2, rfl, hb2, hc2⟩ := (H2.out.below hBB).at_ (k := j) (by omega)
        rcases Nat.lt_trichotomy (dg l j) (dg m j) with h5 | h5 | h5
        · have HV := Lib.hid (cmpv_top HC.out.1 HC.out.2 (by have := HLL.out; omega) (by have := HLL.out; omega) hI.out (by omega))
          rw [cmpv_lt h5] at HV
          have h6 : (dg l j : Int) < dg m j := by omega
          clear h5 hI
          go_wp2_with fail
          go_quiet (fail)
          go_wp2_with fail
          go_ret
          exact ⟨by rw [← HV.out]; rfl, below_drewN hBB nq⟩
        · have hN := Lib.hid (show nval (l.drop j) = nval (m.drop j) by rw [nval_drop l j, nval_drop m j, hI.out, h5])
          rw [h5] at hc
          have h6 : ¬ (dg m j : Int) < dg m j := by omega
          clear h5 hI
          go_wp2_with fail
          go_quiet (fail)
          go_wp2_with fail
          go_quiet (fail)
          go_wp2_with fail
          refine ⟨⟨j, _, by omega, rfl, rfl, below_drewN hBB _, hN⟩, ?_⟩
          simp [intOf]
        · have HV := Lib.hid (cmpv_top HC.out.1 HC.out.2 (by have := HLL.out; omega) (by have := HLL.out; omega) hI.out (by omega))
          rw [cmpv_gt h5] at HV
          have h6 : (dg m j : Int) < dg l j := by omega
          have h7 : ¬ (dg l j : Int) < dg m j := by omega
          clear h5 hI
          go_wp2_with fail
          go_quiet (fail)
          go_wp2_with fail
          go_quiet (fail)
          go_wp2_with fail
          go_ret
          exact ⟨by rw [← HV.out]; rfl, below_drewN (below_drewN hBB _) _⟩
  · rw [cmpv_gt (canon_len_lt hm.1 hl (by omega))]
    have h4 : (n2 : Int) < n := by omega
    clear h h2 hl hm HL HL2
    go_enter Tryz.func63, Tryz.ntmps63
    go_wp2
    go_ret
    exact ⟨rfl, Below.refl _ _⟩

/-- The end of the difference. -/
theorem dif_end {L O M P bw : Nat} (hO : O < P) (hle : M ≤ L) (hb : bw ≤ 1) (h : L + P * bw = O + M) : O = L - M := by
  rcases (show bw = 0 ∨ bw = 1 by omega) with rfl | rfl
  · omega
  · omega

set_option maxRecDepth 100000 in
set_option maxHeartbeats 2000000 in
theorem refminus_f (A A2 : Option Addr) (n c n2 c2 B : Nat) (l m : List Nat) (w : World) (h : Sl w B A n c l) (h2 : Sl w B A2 n2 c2 m) (hB : B ≤ w.heap.size) (hn : n ≤ 1000) (hn2 : n2 ≤ n) (hle : nval m ≤ nval l) :
    Calls Tryz.prog 32 #[.slice A n c, .slice A2 n2 c2] w (RetF (nval l - nval m) w) := by
  have HL := Lib.hid h.len
  have HL2 := Lib.hid h2.len
  have H := Lib.hid h
  have H2 := Lib.hid h2
  have HLE := Lib.hid hle
  clear h h2 hle
  obtain ⟨i0, hi, hz0, hz1, hz2⟩ := info_parts Tryz.infoU32
  have AT := Lib.hid (fun (W : World) (hW : Below w.heap.size w W) (k : Nat) => at_any (k := k) (H.out.below (hW.mono hB)))
  have AT2 := Lib.hid (fun (W : World) (hW : Below w.heap.size w W) (k : Nat) => at_any (k := k) (H2.out.below (hW.mono hB)))
  go_enter Tryz.func32, Tryz.ntmps32
  go_wp2_with fail
  go_loopw [5, 6, 7] (fun x y z W => ∃ (k bw : Nat) (o : List Nat), k ≤ n ∧ bw ≤ 1 ∧ y = .int .u64 bw ∧ z = .int .i64 k ∧ Below w.heap.size w W ∧ Hid (OwnD W w.heap.size x o ∧ o.length = k ∧ nval (l.take k) + 4294967296 ^ k * bw = nval o + nval (m.take k))) (fun _ _ z _ => n - (intOf z).toNat)
  case atStart => exact ⟨0, 0, [], by omega, by omega, rfl, rfl, Below.refl _ _, Lib.hid ⟨OwnD.nil _ _, rfl, by simp [nval]⟩⟩
  case round =>
    obtain ⟨k, bw, o, hk, hbw, rfl, rfl, hBB, hI⟩ := hrel
    have hd1 := dg_lt H.out.dig k
    have hd2 := dg_lt H2.out.dig k
    by_cases hlt : (k : Int) < n
    · obtain ⟨s, hs⟩ : ∃ s, 4294967296 + dg l k - dg m k - bw = s := ⟨_, rfl⟩
      have hs' : s + dg m k + bw = 4294967296 + dg l k := by omega
      obtain ⟨d, hsd⟩ : ∃ d, s % 4294967296 = d := ⟨_, rfl⟩
      obtain ⟨b', hsb⟩ : ∃ b', 1 - s / 4294967296 = b' := ⟨_, rfl⟩
      have e1 : (4294967296 : Int) + (dg l k : Nat) - (dg m k : Nat) - (bw : Nat) = (s : Int) := by omega
      have ed : (s : Int) % 4294967296 = (d : Int) := by omega
      have ev : 1 - (s : Int) / 4294967296 = (b' : Int) := by omega
      have hsl : s < 8589934592 := by omega
      have hdl : d < 4294967296 := by omega
      have hb1' : b' ≤ 1 := by omega
      have hdm : d + dg m k + bw = dg l k + 4294967296 * b' := by omega
      obtain ⟨hO, hlo, hI2⟩ := hI.out
      have hb0 : Below wr.heap.size wr (wr.alloc (.cells #[.int .u32 (d : Nat)] 40)) := (Below.refl _ _).alloc (Nat.le_refl _) _
      have hb1 := hBB.trans (hb0.mono hBB.size)
      have hO1 := Lib.hid (hO.below hb0 (Nat.le_refl _))
      have hnews : ∀ j u, [Value.int .u32 (d : Nat)][j]? = some u → (wr.alloc (.cells #[.int .u32 (d : Nat)] 40)).cell? ((⟨wr.heap.size, 0, none⟩ : Addr).add j) = some u := by
        intro j u hj
        match j, hj with
        | 0, hj => simp at hj; subst hj; simp [Addr.add]
      have hcl : ∀ u ∈ [Value.int .u32 (d : Nat)], u.oneCell' = true := by intro u hu; simp at hu; subst hu; rfl
      have hmx : o.length + 1 ≤ maxLen := by unfold maxLen; omega
      have hby2 : (o.length + 1) * 4 ≤ 140737488355328 := by omega
      have hbs : w.heap.size ≤ (wr.alloc (.cells #[.int .u32 (d : Nat)] 40)).heap.size := hb1.size
      have hst := Lib.hid (And.intro hlo (And.intro hI2 (And.intro hs hdm)))
      have tk1 : Hid True := trivial
      have tk2 : Hid True := trivial
      clear hO hI hs hsd hsb hdm hlo hI2 hs'
      go_wp2_with (first
        | (clear tk1; go_at_call 64; (with_reducible refine (AT.out _ hBB _).mono ?_); rintro e w1 ⟨rfl, rfl⟩)
        | (clear tk2; go_at_call 64; (with_reducible refine (AT2.out _ hBB _).mono ?_); rintro e w1 ⟨rfl, rfl⟩)
        | (at_builtin; go_loud (refine wpList_append_lies _ rfl _ _ 24 rfl w.heap.size 40 i0 (.int .u32 0) 1 4 Tryz.underlying24 hi hz0 hz1 hz2 rfl (by decide) _ _ _ rfl hO1.out.1 ⟨wr.heap.size, 0, none⟩ 1 1 [.int .u32 (d : Nat)] rfl rfl hnews hcl (by decide) hmx hby2 hbs _ rfl ?_; intro g cap w1 hown' hgrow _ hlt; have hP := Lib.hid (hO1.out.pushed hdl hown' hgrow hbs); clear hown' hgrow))
        | fail "no arm")
      refine ⟨⟨k + 1, b', o ++ [d], by omega, by omega, rfl, rfl, hb1.trans (hP.out.2.mono (Nat.le_refl _)), Lib.hid ⟨hP.out.1, by rw [List.length_append, hst.out.1]; rfl, ?_⟩⟩, ?_⟩
      · rw [nval_snoc, hst.out.1, nval_take_dg l, nval_take_dg m]
        exact minus_step (Nat.pow_succ ..) hst.out.2.2.2 hst.out.2.1
      · simp only [intOf]
        omega
    · obtain rfl : k = n := by omega
      have hfin : Hid (nval o = nval l - nval m) := by
        obtain ⟨hO, hlo, hI2⟩ := hI.out
        rw [List.take_of_length_le (by have := HL.out; omega), List.take_of_length_le (by have := HL2.out; omega)] at hI2
        have h5 := nval_lt hO.2
        rw [hlo] at h5
        exact Lib.hid (dif_end h5 HLE.out hbw hI2)
      obtain ⟨A4, c4, rfl, hs4, hfr⟩ := hI.out.1.sl
      replace hfr := Lib.hid hfr
      go_wp2_with (first
        | (go_at_call 48; (with_reducible refine (reftrim_val (v := nval l - nval m) hs4 hfin.out).mono ?_); rintro e w2 ⟨n', rfl, hs5, rfl⟩)
        | fail "no arm")
      go_ret
      exact ⟨_, _, _, rfl, hs5, hBB, hfr.out⟩

theorem refminus_any (A A2 : Option Addr) (n c n2 c2 B : Nat) (l m : List Nat) (w : World) (h : Sl w B A n c l) (h2 : Sl w B A2 n2 c2 m) (hB : B ≤ w.heap.size) (hn : n ≤ 1000) (hn2 : n2 ≤ n) (hle : nval m ≤ nval l) :
    Calls Tryz.prog 32 #[.slice A n c, .slice A2 n2 c2] w (RetD (nval l - nval m) w) :=
  (refminus_f A A2 n c n2 c2 B l m w h h2 hB hn hn2 hle).mono fun _ _ h => h.d
end Go.Proofs.YthnickjbknpmhaaGreatDoor

namespace Go.Proofs.YthnickjbknpmhaaGreatDoor

/-- The number of binary digits. -/
def blen (v : Nat) : Nat := if v = 0 then 0 else blen (v / 2) + 1
theorem blen_zero : blen 0 = 0 := by rw [blen]; rfl
theorem blen_pos {v : Nat} (h : v ≠ 0) : blen v = blen (v / 2) + 1 := by rw [blen, if_neg h]
theorem blen_lt : ∀ v, v < 2 ^ blen v := by
  intro v
  induction v using Nat.strongRecOn with
  | ind v ih =>
    by_cases h : v = 0
    · subst h; rw [blen_zero]; simp
    · rw [blen_pos h, Nat.pow_succ]
      have := ih (v / 2) (by omega)
      omega
theorem blen_ge : ∀ v, v ≠ 0 → 2 ^ (blen v - 1) ≤ v := by
  intro v
  induction v using Nat.strongRecOn with
  | ind v ih =>
    intro h
    rw [blen_pos h, Nat.add_sub_cancel]
    by_cases h2 : v / 2 = 0
    · rw [h2, blen_zero]; simp; omega
    · have h3 := ih (v / 2) (by omega) h2
      have h4 : blen (v / 2) = (blen (v / 2) - 1) + 1 := by rw [blen_pos h2]; rfl
      rw [h4, Nat.pow_succ]
      omega
theorem blen_le {v k : Nat} (h : v < 2 ^ k) : blen v ≤ k := by
  by_cases h0 : v = 0
  · subst h0; rw [blen_zero]; omega
  · rcases Nat.lt_or_ge k (blen v) with h2 | h2
    · have h3 := blen_ge v h0
      have h4 : 2 ^ k ≤ 2 ^ (blen v - 1) := Nat.pow_le_pow_right (by omega) (by omega)
      omega
    · exact h2
theorem blen_shift : ∀ (k r t : Nat), r < 2 ^ k → t ≠ 0 → blen (r + 2 ^ k * t) = k + blen t := by
  intro k
  induction k with
  | zero => intro r t hr _; rw [Nat.pow_zero] at hr; obtain rfl : r = 0 := by omega
            simp
  | succ k ih =>
    intro r t hr ht
    rw [Nat.pow_succ] at hr
    have h1 : 2 ^ (k + 1) * t = 2 * (2 ^ k * t) := by rw [Nat.pow_succ, Nat.mul_comm (2 ^ k) 2, Nat.mul_assoc]
    have hp : 0 < 2 ^ k * t := Nat.mul_pos (Nat.pow_pos (by omega)) (by omega)
    have h2 : (r + 2 ^ (k + 1) * t) / 2 = r / 2 + 2 ^ k * t := by rw [h1]; omega
    rw [blen_pos (by rw [h1]; omega), h2, ih (r / 2) t (by omega) ht]
    omega

theorem p32 (k : Nat) : 4294967296 ^ k = 2 ^ (32 * k) := by rw [show (4294967296 : Nat) = 2 ^ 32 from rfl, ← Nat.pow_mul]
theorem blen_list {l : List Nat} {n : Nat} (hl : Dig l) (hn : l.length = n + 1) (ht : dg l n ≠ 0) : blen (nval l) = 32 * n + blen (dg l n) := by
  have h1 := nval_take_dg l n
  rw [List.take_of_length_le (by omega)] at h1
  have h2 := nval_lt (dig_take hl n)
  rw [List.length_take, Nat.min_eq_left (by omega), p32] at h2
  rw [h1, p32]
  exact blen_shift _ _ _ h2 ht
theorem canon_top {l : List Nat} {n : Nat} (h : Canon l) (hn : l.length = n + 1) : dg l n ≠ 0 := by
  intro h0
  apply h.2
  rw [List.getLast?_eq_getElem?, hn]
  show l[n]? = some 0
  rw [List.getElem?_eq_getElem (by omega)]
  rw [dg_get (by omega)] at h0
  rw [h0]

/-- A digit of a number. -/
theorem dg_val {l : List Nat} (hl : Dig l) (k : Nat) : dg l k = nval l / 4294967296 ^ k % 4294967296 := by
  have h1 := nval_drop l k
  have h2 := dg_lt hl k
  rcases Nat.lt_or_ge l.length k with h | h
  · rw [dg_past (by omega), Nat.div_eq_of_lt (Nat.lt_of_lt_of_le (nval_lt hl) (Nat.pow_le_pow_right (by omega) (by omega)))]
  · have h3 := nval_parts l h
    have h4 := nval_lt (dig_take hl k)
    rw [List.length_take, Nat.min_eq_left h] at h4
    rw [h3, Nat.add_mul_div_left _ _ (Nat.pow_pos (by omega)), Nat.div_eq_of_lt h4, Nat.zero_add, h1]
    omega
theorem bit_val {l : List Nat} (hl : Dig l) (k : Nat) : dg l (k / 32) / 2 ^ (k % 32) % 2 = nval l / 2 ^ k % 2 := by
  rw [dg_val hl, p32]
  have e : 2 ^ k = 2 ^ (32 * (k / 32)) * 2 ^ (k % 32) := by rw [← Nat.pow_add, Nat.div_add_mod]
  rw [e, ← Nat.div_div_eq_div_mul]
  obtain ⟨X, hX⟩ : ∃ X, nval l / 2 ^ (32 * (k / 32)) = X := ⟨_, rfl⟩
  rw [hX]
  have h1 : k % 32 < 32 := Nat.mod_lt _ (by omega)
  obtain ⟨j, hj⟩ : ∃ j, k % 32 = j := ⟨_, rfl⟩
  rw [hj] at h1 ⊢
  have e2 : (4294967296 : Nat) = 2 ^ j * 2 ^ (32 - j) := by rw [← Nat.pow_add, show j + (32 - j) = 32 by omega]
  rw [e2, Nat.mod_mul_right_div_self]
  have e3 : 2 ^ (32 - j) = 2 * 2 ^ (31 - j) := by rw [← Nat.pow_succ', show (31 - j).succ = 32 - j by omega]
  rw [e3, Nat.mod_mul_right_mod]
theorem two_dg {l : List Nat} (hl : Dig l) (k : Nat) : dg l k + dg l (k + 1) * 4294967296 = nval l / 4294967296 ^ k % (4294967296 * 4294967296) := by
  rw [dg_val hl, dg_val hl, Nat.pow_succ, ← Nat.div_div_eq_div_mul, Nat.mod_mul, Nat.mul_comm]
/-- A digit of what is left when binary digits are left out. -/
theorem without_dg {l : List Nat} (hl : Dig l) (k j r : Nat) (hr : r < 32) : (dg l (k + j) + dg l (k + j + 1) * 4294967296) / 2 ^ r % 4294967296 = nval l / 2 ^ (32 * k + r) / 4294967296 ^ j % 4294967296 := by
  rw [two_dg hl]
  obtain ⟨X, hX⟩ : ∃ X, nval l / 4294967296 ^ (k + j) = X := ⟨_, rfl⟩
  have e1 : nval l / 2 ^ (32 * k + r) / 4294967296 ^ j = X / 2 ^ r := by
    rw [← hX, Nat.div_div_eq_div_mul, Nat.div_div_eq_div_mul, Nat.pow_add, Nat.pow_add, p32 k, Nat.mul_assoc, Nat.mul_assoc, Nat.mul_comm (2 ^ r)]
  rw [e1, hX]
  have e2 : (4294967296 * 4294967296 : Nat) = 2 ^ r * (4294967296 * 2 ^ (32 - r)) := by
    rw [Nat.mul_left_comm, ← Nat.pow_add, show r + (32 - r) = 32 by omega]
  rw [e2, Nat.mod_mul_right_div_self, Nat.mod_mul_right_mod]
theorem mod_step (V P : Nat) : V % P + P * (V / P % 4294967296) = V % (P * 4294967296) := (Nat.mod_mul).symm
theorem without_end {l : List Nat} {n s r : Nat} (hl : Dig l) (hn : l.length = n) : nval l / 2 ^ (32 * s + r) < 4294967296 ^ (n - s) := by
  have h1 := nval_lt hl
  rw [hn] at h1
  apply Nat.div_lt_of_lt_mul
  have h2 : 4294967296 ^ n ≤ 2 ^ (32 * s + r) * 4294967296 ^ (n - s) := by
    rw [p32, p32, ← Nat.pow_add]
    exact Nat.pow_le_pow_right (by omega) (by omega)
  omega
theorem or_bit (x b : Nat) (hb : b ≤ 1) : (2 * x) ||| b = 2 * x + b := by
  rcases (show b = 0 ∨ b = 1 by omega) with rfl | rfl
  · simp
  · have := Nat.shiftLeft_add_eq_or_of_lt (i := 1) (b := 1) (by omega) x
    rw [Nat.shiftLeft_eq, Nat.pow_one, Nat.mul_comm] at this
    exact this.symm
theorem or_pow {x j : Nat} (h : x % 2 ^ (j + 1) = 0) : x ||| 2 ^ j = x + 2 ^ j := by
  have e : x = (x / 2 ^ (j + 1)) * 2 ^ (j + 1) := by have := Nat.div_add_mod x (2 ^ (j + 1)); rw [h, Nat.add_zero, Nat.mul_comm] at this; exact this.symm
  have h2 : 2 ^ j < 2 ^ (j + 1) := Nat.pow_lt_pow_right (by omega) (by omega)
  have := Nat.shiftLeft_add_eq_or_of_lt h2 (x / 2 ^ (j + 1))
  rw [Nat.shiftLeft_eq, ← e] at this
  exact this.symm
/-- A digit of a number whose low binary digits are zeros. -/
theorem dg_low {l : List Nat} (hl : Dig l) {Z k : Nat} (h : nval l = Z * 2 ^ (k + 1)) : dg l (k / 32) % 2 ^ (k % 32 + 1) = 0 := by
  rw [dg_val hl, p32, h]
  have h1 : k % 32 < 32 := Nat.mod_lt _ (by omega)
  have e : 2 ^ (k + 1) = 2 ^ (32 * (k / 32)) * 2 ^ (k % 32 + 1) := by rw [← Nat.pow_add]; congr 1; omega
  rw [e, Nat.mul_left_comm, Nat.mul_div_cancel_left _ (Nat.pow_pos (by omega))]
  have e2 : (4294967296 : Nat) = 2 ^ (k % 32 + 1) * 2 ^ (31 - k % 32) := by rw [← Nat.pow_add, show k % 32 + 1 + (31 - k % 32) = 32 by omega]
  rw [e2, Nat.mod_mul_right_mod, Nat.mul_mod_left]
theorem or_digit {x k : Nat} (hx : x < 4294967296) (h : x % 2 ^ (k % 32 + 1) = 0) : x + 2 ^ (k % 32) < 4294967296 := by
  have h1 : k % 32 < 32 := Nat.mod_lt _ (by omega)
  obtain ⟨j, hj⟩ : ∃ j, k % 32 = j := ⟨_, rfl⟩
  rw [hj] at h h1 ⊢
  have e2 : (4294967296 : Nat) = 2 ^ (j + 1) * 2 ^ (31 - j) := by rw [← Nat.pow_add, show j + 1 + (31 - j) = 32 by omega]
  have e : x = 2 ^ (j + 1) * (x / 2 ^ (j + 1)) := by have := Nat.div_add_mod x (2 ^ (j + 1)); omega
  have h3 : x / 2 ^ (j + 1) < 2 ^ (31 - j) := by
    apply Nat.div_lt_of_lt_mul
    omega
  have h4 : 2 ^ (j + 1) * (x / 2 ^ (j + 1) + 1) ≤ 2 ^ (j + 1) * 2 ^ (31 - j) := Nat.mul_le_mul_left _ h3
  rw [Nat.mul_add, Nat.mul_one] at h4
  have h5 : 2 ^ j < 2 ^ (j + 1) := Nat.pow_lt_pow_right (by omega) (by omega)
  omega
theorem pow_split (k : Nat) : 4294967296 ^ (k / 32) * 2 ^ (k % 32) = 2 ^ k := by rw [p32, ← Nat.pow_add, Nat.div_add_mod]
/-- A step of the division in binary. -/
theorem div_bit {V k : Nat} : V / 2 ^ k = 2 * (V / 2 ^ (k + 1)) + V / 2 ^ k % 2 := by
  rw [Nat.pow_succ, ← Nat.div_div_eq_div_mul]; omega
theorem quo_step {A W b : Nat} (hb : b ≤ 1) (hW : 0 < W) :
    (W ≤ 2 * (A % W) + b → (2 * A + b) / W = 2 * (A / W) + 1 ∧ (2 * A + b) % W = 2 * (A % W) + b - W) ∧ (2 * (A % W) + b < W → (2 * A + b) / W = 2 * (A / W) ∧ (2 * A + b) % W = 2 * (A % W) + b) := by
  have h1 := Nat.div_add_mod A W
  have h2 := Nat.mod_lt A hW
  obtain ⟨q, hq⟩ : ∃ q, A / W = q := ⟨_, rfl⟩
  obtain ⟨r, hr⟩ : ∃ r, A % W = r := ⟨_, rfl⟩
  rw [hq, hr] at h1
  rw [hr] at h2
  rw [hq, hr]
  constructor
  · intro h3
    have e : 2 * A + b = (2 * r + b - W) + W * (2 * q + 1) := by
      rw [Nat.mul_add, Nat.mul_left_comm, Nat.mul_one]; omega
    rw [e]
    refine ⟨?_, ?_⟩
    · rw [Nat.add_mul_div_left _ _ hW, Nat.div_eq_of_lt (by omega)]; omega
    · rw [Nat.add_mul_mod_self_left, Nat.mod_eq_of_lt (by omega)]
  · intro h3
    have e : 2 * A + b = (2 * r + b) + W * (2 * q) := by rw [Nat.mul_left_comm]; omega
    rw [e]
    refine ⟨?_, ?_⟩
    · rw [Nat.add_mul_div_left _ _ hW, Nat.div_eq_of_lt h3]; omega
    · rw [Nat.add_mul_mod_self_left, Nat.mod_eq_of_lt h3]
/-- Where the division begins. -/
theorem start_lt {V W f : Nat} (hW : W ≠ 0) (h : blen V = blen W + f) : V / 2 ^ (f + 1) < W := by
  apply Nat.div_lt_of_lt_mul
  have h1 := blen_lt V
  have h2 := blen_ge W hW
  have h3 : 2 ^ blen V ≤ 2 ^ (f + 1) * W := by
    have e : blen V = (f + 1) + (blen W - 1) := by have := blen_pos hW; omega
    rw [e, Nat.pow_add]
    exact Nat.mul_le_mul_left _ h2
  omega
theorem blen_lt_of {V W : Nat} (h : blen V < blen W) : V < W := by
  have h1 := blen_lt V
  have hW : W ≠ 0 := fun e => by rw [e, blen_zero] at h; omega
  have h2 := blen_ge W hW
  have h3 : 2 ^ blen V ≤ 2 ^ (blen W - 1) := Nat.pow_le_pow_right (by omega) (by omega)
  omega
end Go.Proofs.YthnickjbknpmhaaGreatDoor

namespace Go.Proofs.YthnickjbknpmhaaGreatDoor
open Go.RowKit Go.Shelf

theorem bit_and (y : Nat) (hy : y < 4294967296) : bits .and .u32 (y : Int) 1 = ((y % 2 : Nat) : Int) := by
  have e : (BitVec.ofInt 32 (y : Int)).toNat = y := by rw [BitVec.ofInt_natCast, BitVec.toNat_ofNat]; exact Nat.mod_eq_of_lt (by omega)
  show IntKind.u32.wrap ((BitVec.ofInt 32 (y : Int) &&& BitVec.ofInt 32 (1 : Int)).toNat : Int) = _
  rw [BitVec.toNat_and, e, show (BitVec.ofInt 32 (1 : Int)).toNat = 1 from rfl, Nat.and_one_is_mod, IntKind.wrap_u32]
  omega

set_option maxHeartbeats 1000000 in
theorem bit_any {A : Option Addr} {n c B : Nat} {l : List Nat} {w : World} (k : Nat) (h : Sl w B A n c l) (hk : k / 32 < n) :
    Calls Tryz.prog 62 #[.slice A n c, .int .i64 (k : Int)] w fun e w' => e = .returned (.int .u32 ((nval l / 2 ^ k % 2 : Nat) : Int)) ∧ w = w' := by
  have hv := Lib.hid (bit_val h.dig k)
  obtain ⟨s, hs⟩ : ∃ s, k / 32 = s := ⟨_, rfl⟩
  obtain ⟨r, hr⟩ : ∃ r, k % 32 = r := ⟨_, rfl⟩
  rw [hs] at hk
  rw [hs, hr] at hv
  obtain ⟨ad, rfl, hb, hc⟩ := h.at_ (k := s) hk
  have hd := dg_lt h.dig s
  obtain ⟨x, hx⟩ : ∃ x, dg l s = x := ⟨_, rfl⟩
  rw [hx] at hc hd hv
  obtain ⟨y, hy⟩ : ∃ y, x / 2 ^ r = y := ⟨_, rfl⟩
  rw [hy] at hv
  have hyl : y < 4294967296 := by rw [← hy]; exact Nat.lt_of_le_of_lt (Nat.div_le_self _ _) hd
  have e0 : (k : Int) / 32 = (s : Int) := by omega
  have e1 : (k : Int) % 32 = (r : Int) := by omega
  have e2 : (x : Int) / 2 ^ r = (y : Int) := by rw [← hy]; simp
  have e3 := bit_and y hyl
  have hr32 : r < 32 := by omega
  have hs63 : (s : Int) ≤ 9223372036854775807 := by have := h.2; omega
  rw [← hv.out]
  clear h hs hr hx hy hv
  go_enter Tryz.func62, Tryz.ntmps62
  go_wp2_with fail
  go_ret
  exact ⟨rfl, rfl⟩

set_option maxRecDepth 100000 in
set_option maxHeartbeats 1000000 in
theorem length_any {A : Option Addr} {n c B : Nat} {l : List Nat} {w : World} (h : Sl w B A n c l) (hl : Canon l) (hn : n ≤ 1000) :
    Calls Tryz.prog 59 #[.slice A n c] w fun e w' => e = .returned (.int .i64 (blen (nval l) : Nat)) ∧ w = w' := by
  have HL := h.len
  cases n with
  | zero =>
    obtain rfl := List.eq_nil_of_length_eq_zero HL
    rw [show blen (nval []) = 0 from blen_zero]
    clear h hl HL
    go_enter Tryz.func59, Tryz.ntmps59
    go_wp2_with fail
    go_ret
    exact ⟨rfl, rfl⟩
  | succ n =>
    rw [blen_list hl.1 HL (canon_top hl HL)]
    obtain ⟨ad, rfl, hb, hc⟩ := h.at_ (k := n) (by omega)
    have hd := dg_lt h.dig n
    obtain ⟨x, hx⟩ : ∃ x, dg l n = x := ⟨_, rfl⟩
    rw [hx] at hc hd ⊢
    clear h hl HL hx hb
    have hbx := blen_le (show x < 2 ^ 32 from hd)
    obtain ⟨b, hbb⟩ : ∃ b, blen x = b := ⟨_, rfl⟩
    have HBB := Lib.hid hbb
    rw [hbb] at hbx ⊢
    clear hbb
    go_enter Tryz.func59, Tryz.ntmps59
    go_wp2_with fail
    go_loopw [3, 4] (fun y z W => ∃ (u v : Nat), v < 4294967296 ∧ u ≤ 32 * n + 32 ∧ y = .int .i64 u ∧ z = .int .u32 v ∧ w = W ∧ Hid (u + blen v = 32 * n + b)) (fun _ z _ => (intOf z).toNat)
    case atStart => exact ⟨32 * n, x, hd, by omega, by go_num, rfl, rfl, Lib.hid (by rw [HBB.out])⟩
    case round =>
      obtain ⟨u, v, hv, hu, rfl, rfl, rfl, hI⟩ := hrel
      by_cases h0 : v = 0
      · subst h0
        have hI' := hI.out
        rw [blen_zero, Nat.add_zero] at hI'
        subst hI'
        go_wp2_with fail
        go_ret
        exact ⟨rfl, rfl⟩
      · have hpos : (0 : Int) < v := by omega
        have hI' := hI.out
        rw [blen_pos h0] at hI'
        have hu2 : u + 1 ≤ 32 * n + 32 := by omega
        have hN := Lib.hid (show (u + 1) + blen (v / 2) = 32 * n + b by omega)
        obtain ⟨v2, hv2⟩ : ∃ v2, v / 2 = v2 := ⟨_, rfl⟩
        rw [hv2] at hN
        have hl2 : v2 < 4294967296 := by omega
        have hm2 : v2 < v := by omega
        have e2 : (v : Int) / 2 = (v2 : Int) := by omega
        clear hI hI' h0 hv2
        go_wp2_with fail
        refine ⟨⟨u + 1, v2, hl2, hu2, by go_num, rfl, trivial, hN⟩, ?_⟩
        simp [intOf]; omega

set_option maxRecDepth 100000 in
set_option maxHeartbeats 1000000 in
theorem refword_any {A : Option Addr} {n c B : Nat} {l : List Nat} {w : World} (h : Sl w B A n c l) (hn : n ≤ 2) :
    Calls Tryz.prog 58 #[.slice A n c] w fun e w' => e = .returned (.int .u64 (nval l : Nat)) ∧ w = w' := by
  have H := Lib.hid h
  have HL := Lib.hid h.len
  clear h
  go_enter Tryz.func58, Tryz.ntmps58
  go_wp2_with fail
  go_loopw [3, 4] (fun y z W => ∃ (k v : Nat), k ≤ n ∧ y = .int .u64 v ∧ z = .int .i64 k ∧ w = W ∧ Hid (v = nval (l.take k))) (fun _ z _ => n - (intOf z).toNat)
  case atStart => exact ⟨0, 0, by omega, rfl, rfl, rfl, Lib.hid rfl⟩
  case round =>
    obtain ⟨k, v, hk, rfl, rfl, rfl, hI⟩ := hrel
    by_cases hlt : k < n
    · obtain ⟨ad, rfl, hb, hc⟩ := H.out.at_ (k := k) hlt
      have hd := dg_lt H.out.dig k
      have hv := nval_lt (dig_take H.out.dig k)
      rw [List.length_take, Nat.min_eq_left (by have := HL.out; omega), ← hI.out] at hv
      have hN := Lib.hid (nval_take_dg l k)
      obtain ⟨x, hx⟩ : ∃ x, dg l k = x := ⟨_, rfl⟩
      rw [hx, ← hI.out] at hN
      rw [hx] at hc hd
      clear hx
      obtain ⟨s, hs⟩ : ∃ s, 32 * k = s := ⟨_, rfl⟩
      obtain ⟨y, hy⟩ : ∃ y, x * 2 ^ s = y := ⟨_, rfl⟩
      have hy2 : 4294967296 ^ k * x = y := by rw [p32, hs, Nat.mul_comm, hy]
      rw [hy2] at hN
      have hsum : v + y < 18446744073709551616 := by
        rcases (show k = 0 ∨ k = 1 by omega) with rfl | rfl
        · rw [Nat.pow_zero] at hv hy2; omega
        · rw [Nat.pow_one] at hv hy2; omega
      have hs32 : s ≤ 32 := by omega
      have e1 : (32 : Int) * k = (s : Int) := by omega
      have e2 : (x : Int) * 2 ^ s = (y : Int) := by rw [← hy]; simp
      have hm : (v : Int) + y < 18446744073709551616 := by omega
      have hk2 : (k : Int) < 2 := by omega
      clear hs hy hy2 hv hI hsum
      go_wp2_with fail
      refine ⟨⟨k + 1, v + y, by omega, by go_num, by go_num, trivial, Lib.hid hN.out.symm⟩, ?_⟩
      simp only [intOf]
      omega
    · have hv : Hid (v = nval l) := by
        have := hI.out
        rw [List.take_of_length_le (by have := HL.out; omega)] at this
        exact Lib.hid this
      clear hI
      go_wp2_with fail
      go_ret
      exact ⟨by rw [← hv.out]; rfl, rfl⟩
end Go.Proofs.YthnickjbknpmhaaGreatDoor

namespace Go.Proofs.YthnickjbknpmhaaGreatDoor
open Go.RowKit Go.Shelf

set_option maxRecDepth 100000 in
set_option maxHeartbeats 1000000 in
theorem refdigits_any (v : Nat) (w : World) (hv : v < 18446744073709551616) :
    Calls Tryz.prog 57 #[.int .u64 v] w (RetD v w) := by
  obtain ⟨a, ha⟩ : ∃ a, v % 4294967296 = a := ⟨_, rfl⟩
  obtain ⟨b, hb⟩ : ∃ b, v / 4294967296 = b := ⟨_, rfl⟩
  have e1 : (v : Int) % 4294967296 = (a : Int) := by omega
  have e2 : (v : Int) / 4294967296 = (b : Int) := by omega
  have hal : a < 4294967296 := by omega
  have hbl : b < 4294967296 := by omega
  have d1 : DBk (w.alloc (.cells #[.int .u32 (a : Nat), .int .u32 (b : Nat)] 40)) w.heap.size 40 [a, b] := heap_alloc_at w _ _ rfl
  have hs : Hid (Sl _ _ (some ⟨w.heap.size, 0, none⟩) 2 2 [a, b]) := Lib.hid (d1.sl (B := (w.alloc (.cells #[.int .u32 (a : Nat), .int .u32 (b : Nat)] 40)).heap.size) (by intro x hx; simp at hx; omega) (by simp) (by simp))
  have hn := Lib.hid (show nval [a, b] = v by simp [nval]; omega)
  clear ha hb d1
  go_enter Tryz.func57, Tryz.ntmps57
  go_wp2_with (go_at_call 48; go_loud ((with_reducible refine (reftrim_val hs.out hn.out).mono ?_); rintro e w2 ⟨n', rfl, hs5, rfl⟩))
  go_ret
  exact ⟨_, _, _, rfl, hs5, by go_grown⟩

theorem tw_step {O P P' T bk v d b' b : Nat} (hp : P' = P * 4294967296) (hv : v + 4294967296 * b' = 2 * d + bk) (h : O + P * bk = 2 * T + b) : O + P * v + P' * b' = 2 * (T + P * d) + b := by
  subst hp
  have : P * (v + 4294967296 * b') = P * (2 * d + bk) := by rw [hv]
  simp only [Nat.mul_add, ← Nat.mul_assoc] at this
  rw [Nat.mul_add, show 2 * (P * d) = P * 2 * d by rw [← Nat.mul_assoc, Nat.mul_comm 2 P]]
  omega
theorem bor_bit {u bk : Nat} (hu : u < 4294967296) (h2 : u % 2 = 0) (hb : bk ≤ 1) : bits .or .u32 (u : Int) (bk : Int) = ((u + bk : Nat) : Int) := by
  rw [bor32 u bk hu (by omega)]
  have e : u = 2 * (u / 2) := by omega
  rw [e, or_bit (u / 2) bk hb]

set_option maxRecDepth 100000 in
set_option maxHeartbeats 2000000 in
theorem twice_any {A : Option Addr} {n c B : Nat} {l : List Nat} {w : World} (b : Nat) (h : Sl w B A n c l) (hB : B ≤ w.heap.size) (hn : n ≤ 1000) (hb : b ≤ 1) :
    Calls Tryz.prog 61 #[.slice A n c, .int .u32 b] w (RetF (2 * nval l + b) w) := by
  have HL := Lib.hid h.len
  have H := Lib.hid h
  clear h
  obtain ⟨i0, hi, hz0, hz1, hz2⟩ := info_parts Tryz.infoU32
  go_enter Tryz.func61, Tryz.ntmps61
  go_wp2_with fail
  go_loopw [1, 5, 6] (fun y x z W => ∃ (k bk : Nat) (o : List Nat), k ≤ n ∧ bk ≤ 1 ∧ y = .int .u32 bk ∧ z = .int .i64 k ∧ Below w.heap.size w W ∧ Hid (OwnD W w.heap.size x o ∧ o.length = k ∧ nval o + 4294967296 ^ k * bk = 2 * nval (l.take k) + b)) (fun _ _ z _ => n - (intOf z).toNat)
  case atStart => exact ⟨0, b, [], by omega, hb, rfl, rfl, Below.refl _ _, Lib.hid ⟨OwnD.nil _ _, rfl, by simp [nval]⟩⟩
  case round =>
    obtain ⟨k, bk, o, hk, hbk, rfl, rfl, hBB, hI⟩ := hrel
    by_cases hlt : (k : Int) < n
    · obtain ⟨ad, rfl, hab, hc⟩ := (H.out.below (hBB.mono hB)).at_ (k := k) (by omega)
      have hd1 := dg_lt H.out.dig k
      have HD := Lib.hid (nval_take_dg l k)
      have HC2 := Lib.hid (fun (W : World) (hW : Below w.heap.size w W) => (H.out.below (hW.mono hB)).at_ (k := k) (by omega))
      obtain ⟨d, hd⟩ : ∃ d, dg l k = d := ⟨_, rfl⟩
      rw [hd] at hc hd1 HD HC2
      obtain ⟨u, hu⟩ : ∃ u, 2 * d % 4294967296 = u := ⟨_, rfl⟩
      obtain ⟨v, hv⟩ : ∃ v, u + bk = v := ⟨_, rfl⟩
      obtain ⟨b', hb'⟩ : ∃ b', d / 2147483648 = b' := ⟨_, rfl⟩
      have e1 : ((d : Int) * 2) % 4294967296 = (u : Int) := by omega
      have e2 := bor_bit (u := u) (bk := bk) (by omega) (by omega) hbk
      rw [hv] at e2
      have e3 : (d : Int) / 2147483648 = (b' : Int) := by omega
      have hb1' : b' ≤ 1 := by omega
      have hdl : v < 4294967296 := by omega
      have hdm : v + 4294967296 * b' = 2 * d + bk := by omega
      obtain ⟨hO, hlo, hI2⟩ := hI.out
      have hb0 : Below wr.heap.size wr (wr.alloc (.cells #[.int .u32 (v : Nat)] 40)) := (Below.refl _ _).alloc (Nat.le_refl _) _
      have hb1 := hBB.trans (hb0.mono hBB.size)
      have hO1 := Lib.hid (hO.below hb0 (Nat.le_refl _))
      have hnews : ∀ j u, [Value.int .u32 (v : Nat)][j]? = some u → (wr.alloc (.cells #[.int .u32 (v : Nat)] 40)).cell? ((⟨wr.heap.size, 0, none⟩ : Addr).add j) = some u := by
        intro j u hj
        match j, hj with
        | 0, hj => simp at hj; subst hj; simp [Addr.add]
      have hcl : ∀ u ∈ [Value.int .u32 (v : Nat)], u.oneCell' = true := by intro u hu; simp at hu; subst hu; rfl
      have hmx : o.length + 1 ≤ maxLen := by unfold maxLen; omega
      have hby2 : (o.length + 1) * 4 ≤ 140737488355328 := by omega
      have hbs : w.heap.size ≤ (wr.alloc (.cells #[.int .u32 (v : Nat)] 40)).heap.size := hb1.size
      have hst := Lib.hid (And.intro hlo (And.intro hI2 hdm))
      clear hO hI hu hv hb' hdm hlo hI2 hd
      go_wp2_with (first
        | (at_builtin; go_loud (refine wpList_append_lies _ rfl _ _ 24 rfl w.heap.size 40 i0 (.int .u32 0) 1 4 Tryz.underlying24 hi hz0 hz1 hz2 rfl (by decide) _ _ _ rfl hO1.out.1 ⟨wr.heap.size, 0, none⟩ 1 1 [.int .u32 (v : Nat)] rfl rfl hnews hcl (by decide) hmx hby2 hbs _ rfl ?_; intro g cap w1 hown' hgrow _ hlt; have hP := Lib.hid (hO1.out.pushed hdl hown' hgrow hbs); obtain ⟨ad3, ea3, hab3, hc3⟩ := HC2.out _ (hb1.trans (hP.out.2.mono (Nat.le_refl _))); cases ea3; clear hown' hgrow))
        | fail "no arm")
      refine ⟨⟨k + 1, b', o ++ [v], by omega, hb1', rfl, by go_num, hb1.trans (hP.out.2.mono (Nat.le_refl _)), Lib.hid ⟨hP.out.1, by rw [List.length_append, hst.out.1]; rfl, ?_⟩⟩, ?_⟩
      · rw [nval_snoc, hst.out.1, HD.out]
        exact tw_step (Nat.pow_succ ..) hst.out.2.2 hst.out.2.1
      · simp only [intOf]
        omega
    · obtain rfl : k = n := by omega
      have hfin : Hid (nval (o ++ [bk]) = 2 * nval l + b) := by
        obtain ⟨hO, hlo, hI2⟩ := hI.out
        rw [List.take_of_length_le (by have := HL.out; omega)] at hI2
        rw [nval_snoc, hlo]
        exact Lib.hid hI2
      obtain ⟨hO, hlo, hI2⟩ := hI.out
      have hbl : bk < 4294967296 := by omega
      have hb0 : Below wr.heap.size wr (wr.alloc (.cells #[.int .u32 (bk : Nat)] 40)) := (Below.refl _ _).alloc (Nat.le_refl _) _
      have hb1 := hBB.trans (hb0.mono hBB.size)
      have hO1 := Lib.hid (hO.below hb0 (Nat.le_refl _))
      have hnews : ∀ j u, [Value.int .u32 (bk : Nat)][j]? = some u → (wr.alloc (.cells #[.int .u32 (bk : Nat)] 40)).cell? ((⟨wr.heap.size, 0, none⟩ : Addr).add j) = some u := by
        intro j u hj
        match j, hj with
        | 0, hj => simp at hj; subst hj; simp [Addr.add]
      have hcl : ∀ u ∈ [Value.int .u32 (bk : Nat)], u.oneCell' = true := by intro u hu; simp at hu; subst hu; rfl
      have hmx : o.length + 1 ≤ maxLen := by unfold maxLen; omega
      have hby2 : (o.length + 1) * 4 ≤ 140737488355328 := by omega
      have hbs : w.heap.size ≤ (wr.alloc (.cells #[.int .u32 (bk : Nat)] 40)).heap.size := hb1.size
      clear hO hI hlo hI2
      go_wp2_with (first
        | (at_builtin; go_loud (refine wpList_append_lies _ rfl _ _ 24 rfl w.heap.size 40 i0 (.int .u32 0) 1 4 Tryz.underlying24 hi hz0 hz1 hz2 rfl (by decide) _ _ _ rfl hO1.out.1 ⟨wr.heap.size, 0, none⟩ 1 1 [.int .u32 (bk : Nat)] rfl rfl hnews hcl (by decide) hmx hby2 hbs _ rfl ?_; intro g cap w1 hown' hgrow _ hlt; have hP := Lib.hid (hO1.out.pushed hbl hown' hgrow hbs); have hs5 := Lib.hid hP.out.1.sl_len; have hfr := Lib.hid hP.out.1.fresh; clear hown' hgrow))
        | (go_at_call 48; (with_reducible refine (reftrim_val (v := 2 * nval l + b) hs5.out hfin.out).mono ?_); rintro e w2 ⟨n', rfl, hs4, rfl⟩)
        | fail "no arm")
      go_ret
      exact ⟨_, _, _, rfl, hs4, hb1.trans (hP.out.2.mono (Nat.le_refl _)), hfr.out⟩

set_option maxRecDepth 100000 in
set_option maxHeartbeats 2000000 in
theorem without_any {A : Option Addr} {n c B : Nat} {l : List Nat} {w : World} (f : Nat) (h : Sl w B A n c l) (hB : B ≤ w.heap.size) (hn : n ≤ 1000) (hf : f ≤ 100000) :
    Calls Tryz.prog 60 #[.slice A n c, .int .i64 f] w (RetF (nval l / 2 ^ f) w) := by
  have HL := Lib.hid h.len
  have H := Lib.hid h
  clear h
  obtain ⟨i0, hi, hz0, hz1, hz2⟩ := info_parts Tryz.infoU32
  have AT := Lib.hid (fun (W : World) (hW : Below w.heap.size w W) (k : Nat) => at_any (k := k) (H.out.below (hW.mono hB)))
  have AT2 : Hid (∀ (W : World) (_ : Below w.heap.size w W) (k : Nat), Calls Tryz.prog 64 #[.slice A n c, .int .i64 ((k : Int) + 1)] W fun e w' => e = .returned (.int .u64 (dg l (k + 1) : Nat)) ∧ W = w') := fun W hW k => AT.out W hW (k + 1)
  obtain ⟨s, hs⟩ : ∃ s, f / 32 = s := ⟨_, rfl⟩
  obtain ⟨r, hr⟩ : ∃ r, f % 32 = r := ⟨_, rfl⟩
  have hfs : f = 32 * s + r := by omega
  have e0 : (f : Int) / 32 = (s : Int) := by omega
  have e00 : (f : Int) % 32 = (r : Int) := by omega
  have hr32 : r < 32 := by omega
  have hsl : s ≤ 4000 := by omega
  obtain ⟨V, hV⟩ : ∃ V, nval l / 2 ^ f = V := ⟨_, rfl⟩
  rw [hV]
  have HW := Lib.hid (fun k => without_dg H.out.dig s k r hr32)
  rw [← hfs, hV] at HW
  have HE := Lib.hid (without_end (s := s) (r := r) H.out.dig HL.out)
  rw [← hfs, hV] at HE
  clear hs hr hfs hV
  go_enter Tryz.func60, Tryz.ntmps60
  go_wp2_with fail
  go_loopw [5, 6] (fun x z W => ∃ (k : Nat) (o : List Nat), k ≤ 5000 ∧ z = .int .i64 k ∧ Below w.heap.size w W ∧ Hid (OwnD W w.heap.size x o ∧ k = s + o.length ∧ nval o = V % 4294967296 ^ o.length)) (fun _ z _ => n - (intOf z).toNat)
  case atStart => exact ⟨s, [], by omega, rfl, Below.refl _ _, Lib.hid ⟨OwnD.nil _ _, rfl, by simp [nval, Nat.mod_one]⟩⟩
  case round =>
    obtain ⟨k, o, hk, rfl, hBB, hI⟩ := hrel
    by_cases hlt : (k : Int) < n
    · have hd1 := dg_lt H.out.dig k
      have hd2 := dg_lt H.out.dig (k + 1)
      have hw := HW.out o.length
      rw [← hI.out.2.1] at hw
      obtain ⟨x, hx⟩ : ∃ x, dg l k = x := ⟨_, rfl⟩
      obtain ⟨y, hy⟩ : ∃ y, dg l (k + 1) = y := ⟨_, rfl⟩
      have AT1 := Lib.hid (fun (W : World) (hW : Below w.heap.size w W) => AT.out W hW k)
      have AT3 := Lib.hid (fun (W : World) (hW : Below w.heap.size w W) => AT2.out W hW k)
      rw [hx] at hd1 hw AT1
      rw [hy] at hd2 hw AT3
      obtain ⟨q, hq⟩ : ∃ q, (x + y * 4294967296) / 2 ^ r = q := ⟨_, rfl⟩
      have hql : q < 18446744073709551616 := by rw [← hq]; exact Nat.lt_of_le_of_lt (Nat.div_le_self _ _) (by omega)
      rw [hq] at hw
      obtain ⟨d, hd⟩ : ∃ d, q % 4294967296 = d := ⟨_, rfl⟩
      rw [hd] at hw
      have e1 : ((x : Int) + y * 4294967296) / 2 ^ r = (q : Int) := by rw [← hq]; simp
      have e2 : (q : Int) % 4294967296 = (d : Int) := by omega
      have hdl : d < 4294967296 := by omega
      obtain ⟨hO, hlo, hI2⟩ := hI.out
      have hb0 : Below wr.heap.size wr (wr.alloc (.cells #[.int .u32 (d : Nat)] 40)) := (Below.refl _ _).alloc (Nat.le_refl _) _
      have hb1 := hBB.trans (hb0.mono hBB.size)
      have hO1 := Lib.hid (hO.below hb0 (Nat.le_refl _))
      have hnews : ∀ j u, [Value.int .u32 (d : Nat)][j]? = some u → (wr.alloc (.cells #[.int .u32 (d : Nat)] 40)).cell? ((⟨wr.heap.size, 0, none⟩ : Addr).add j) = some u := by
        intro j u hj
        match j, hj with
        | 0, hj => simp at hj; subst hj; simp [Addr.add]
      have hcl : ∀ u ∈ [Value.int .u32 (d : Nat)], u.oneCell' = true := by intro u hu; simp at hu; subst hu; rfl
      have hmx : o.length + 1 ≤ maxLen := by unfold maxLen; omega
      have hby2 : (o.length + 1) * 4 ≤ 140737488355328 := by omega
      have hbs : w.heap.size ≤ (wr.alloc (.cells #[.int .u32 (d : Nat)] 40)).heap.size := hb1.size
      have hst := Lib.hid (And.intro hlo (And.intro hI2 hw))
      have tk1 : Hid True := trivial
      have tk2 : Hid True := trivial
      clear hO hI hq hd hw hlo hI2 hx hy
      go_wp2_with (first
        | (clear tk1; go_at_call 64; (with_reducible refine (AT1.out _ hBB).mono ?_); rintro e w1 ⟨rfl, rfl⟩)
        | (clear tk2; go_at_call 64; (with_reducible refine (AT3.out _ hBB).mono ?_); rintro e w1 ⟨rfl, rfl⟩)
        | (at_builtin; go_loud (refine wpList_append_lies _ rfl _ _ 24 rfl w.heap.size 40 i0 (.int .u32 0) 1 4 Tryz.underlying24 hi hz0 hz1 hz2 rfl (by decide) _ _ _ rfl hO1.out.1 ⟨wr.heap.size, 0, none⟩ 1 1 [.int .u32 (d : Nat)] rfl rfl hnews hcl (by decide) hmx hby2 hbs _ rfl ?_; intro g cap w1 hown' hgrow _ hlt; have hP := Lib.hid (hO1.out.pushed hdl hown' hgrow hbs); clear hown' hgrow))
        | fail "no arm")
      refine ⟨⟨k + 1, o ++ [d], by omega, by go_num, hb1.trans (hP.out.2.mono (Nat.le_refl _)), Lib.hid ⟨hP.out.1, by rw [List.length_append, hst.out.1]; rfl, ?_⟩⟩, ?_⟩
      · rw [nval_snoc, List.length_append, hst.out.2.1, hst.out.2.2]
        exact mod_step V _
      · simp only [intOf]
        omega
    · have hfin : Hid (nval o = V) := by
        obtain ⟨hO, hlo, hI2⟩ := hI.out
        rw [hI2]
        exact Lib.hid (Nat.mod_eq_of_lt (Nat.lt_of_lt_of_le HE.out (Nat.pow_le_pow_right (by omega) (by omega))))
      obtain ⟨A4, c4, rfl, hs4, hfr⟩ := hI.out.1.sl
      replace hfr := Lib.hid hfr
      go_wp2_with (first
        | (go_at_call 48; (with_reducible refine (reftrim_val (v := V) hs4 hfin.out).mono ?_); rintro e w2 ⟨n', rfl, hs5, rfl⟩)
        | fail "no arm")
      go_ret
      exact ⟨_, _, _, rfl, hs5, hBB, hfr.out⟩
end Go.Proofs.YthnickjbknpmhaaGreatDoor

namespace Go.Proofs.YthnickjbknpmhaaGreatDoor
open Go.RowKit Go.Shelf

theorem refright_to {w : World} {A : Option Addr} {n c : Nat} {l : List Nat} (neg : Bool) (h : Sl w w.heap.size A n c l) (b : Bool) (hb : rightB neg l = b) (W : World) (hW : Below w.heap.size w W) :
    Calls Tryz.prog 29 #[.agg #[.bool neg, .slice A n c]] W fun e w' => e = .returned (.bool b) ∧ Below W.heap.size W w' := by
  subst hb
  exact refright_any neg A n c w.heap.size l W (h.below hW).1 hW.size h.2.1
set_option maxRecDepth 100000 in
set_option maxHeartbeats 1000000 in
theorem refmul_no1 (neg neg2 : Bool) {A A2 : Option Addr} {n n2 c c2 B : Nat} {l : List Nat} {w : World} (h : Sl w B A n c l) (hB : B ≤ w.heap.size) (h1 : rightB neg l = false) :
    Calls Tryz.prog 37 #[.agg #[.bool neg, .slice A n c], .agg #[.bool neg2, .slice A2 n2 c2]] w (RetN none w) := by
  have R1 := Lib.hid (refright_to neg (h.more hB) false h1)
  have s0 := Sm.start (w := w) (neg := neg) (A := A) (n := n) (c := c) (neg2 := neg2) (A2 := A2) (n2 := n2) (c2 := c2)
  clear h h1
  go_enter Tryz.func37, Tryz.ntmps37
  go_wp2_with (go_at_call 29; refine (R1.out _ s0.below).mono ?_; rintro e w1 ⟨rfl, hb⟩; have s1 := s0.via hb; obtain ⟨a0, a1, b0, b1, r0, r1, rf, rz⟩ := s1.facts)
  obtain ⟨q0, q1⟩ := two_set (.bool false) (.slice none 0 0) r0 r1
  refine bodyPost_ret (v := .tuple #[.agg #[.bool false, .slice none 0 0], .bool false]) ?_ rfl ⟨_, _, _, rfl, by rw [show digs (vO none).natAbs = [] from digs_zero]; exact Sl.none_, ?_⟩
  · simp [results, Tryz.f37, go_sem, q0, q1]
  · exact (s1.below.setCell (by simp; omega) _).setCell (by simp; omega) _

set_option maxRecDepth 100000 in
set_option maxHeartbeats 1000000 in
theorem refmul_no2 (neg neg2 : Bool) {A A2 : Option Addr} {n n2 c c2 B : Nat} {l m : List Nat} {w : World} (h : Sl w B A n c l) (h2 : Sl w B A2 n2 c2 m) (hB : B ≤ w.heap.size) (h1 : rightB neg l = true) (k1 : rightB neg2 m = false) :
    Calls Tryz.prog 37 #[.agg #[.bool neg, .slice A n c], .agg #[.bool neg2, .slice A2 n2 c2]] w (RetN none w) := by
  have R1 := Lib.hid (refright_to neg (h.more hB) true h1)
  have R2 := Lib.hid (refright_to neg2 (h2.more hB) false k1)
  have s0 := Sm.start (w := w) (neg := neg) (A := A) (n := n) (c := c) (neg2 := neg2) (A2 := A2) (n2 := n2) (c2 := c2)
  clear h h1 h2 k1
  go_enter Tryz.func37, Tryz.ntmps37
  go_wp2_with (first
    | (go_at_call 29; (with_reducible refine (R1.out _ s0.below).mono ?_); rintro e w1 ⟨rfl, hb⟩; have s1 := s0.via hb; obtain ⟨a0, a1, b0, b1, r0, r1, rf, rz⟩ := s1.facts)
    | (go_at_call 29; (with_reducible refine (R2.out _ s1.below).mono ?_); rintro e w2 ⟨rfl, hb⟩; have s2 := s1.via hb; clear a0 a1 b0 b1 r0 r1 rf rz; obtain ⟨a0, a1, b0, b1, r0, r1, rf, rz⟩ := s2.facts)
    | fail "no arm")
  obtain ⟨q0, q1⟩ := two_set (.bool false) (.slice none 0 0) r0 r1
  refine bodyPost_ret (v := .tuple #[.agg #[.bool false, .slice none 0 0], .bool false]) ?_ rfl ⟨_, _, _, rfl, by rw [show digs (vO none).natAbs = [] from digs_zero]; exact Sl.none_, ?_⟩
  · simp [results, Tryz.f37, go_sem, q0, q1]
  · exact (s2.below.setCell (by simp; omega) _).setCell (by simp; omega) _

set_option maxRecDepth 100000 in
set_option maxHeartbeats 2000000 in
theorem refmul_yes (neg neg2 : Bool) {A A2 : Option Addr} {n n2 c c2 B : Nat} {l m : List Nat} {w : World} (h : Sl w B A n c l) (h2 : Sl w B A2 n2 c2 m) (hB : B ≤ w.heap.size) (h1 : rightB neg l = true) (k1 : rightB neg2 m = true) :
    Calls Tryz.prog 37 #[.agg #[.bool neg, .slice A n c], .agg #[.bool neg2, .slice A2 n2 c2]] w (RetN (fitO (sgn neg (nval l) * sgn neg2 (nval m))) w) := by
  have R1 := Lib.hid (refright_to neg (h.more hB) true h1)
  have R2 := Lib.hid (refright_to neg2 (h2.more hB) true k1)
  have hn := (right_true h1 h.dig).2.1
  have hn2 := (right_true k1 h2.dig).2.1
  rw [h.len] at hn
  rw [h2.len] at hn2
  have TI := Lib.hid (fun (W : World) (hW : Below w.heap.size w W) => reftimes_any _ _ _ _ _ _ _ _ _ W ((h.more hB).below hW) ((h2.more hB).below hW) hW.size (by omega) (by omega))
  have s0 := Sm.start (w := w) (neg := neg) (A := A) (n := n) (c := c) (neg2 := neg2) (A2 := A2) (n2 := n2) (c2 := c2)
  rw [sgn_mul]
  clear h h1 h2 k1
  go_enter Tryz.func37, Tryz.ntmps37
  go_wp2_with (first
    | (go_at_call 29; (with_reducible refine (R1.out _ s0.below).mono ?_); rintro e w1 ⟨rfl, hb⟩; have s1 := s0.via hb; obtain ⟨a0, a1, b0, b1, r0, r1, rf, rz⟩ := s1.facts)
    | (go_at_call 29; (with_reducible refine (R2.out _ s1.below).mono ?_); rintro e w2 ⟨rfl, hb⟩; have s2 := s1.via hb; clear a0 a1 b0 b1 r0 r1 rf rz; obtain ⟨a0, a1, b0, b1, r0, r1, rf, rz⟩ := s2.facts)
    | fail "no arm")
  go_region_held3 (fun W => W.cell? ⟨w.heap.size, 0, none⟩ = some (.bool neg) ∧ W.cell? ⟨w.heap.size, 1, none⟩ = some (.slice A n c) ∧ W.cell? ⟨w.heap.size + 1, 0, none⟩ = some (.bool neg2) ∧ W.cell? ⟨w.heap.size + 1, 1, none⟩ = some (.slice A2 n2 c2))
    (first | exact ⟨a0, a1, b0, b1⟩ | exact ⟨s5.facts.1, s5.facts.2.1, s5.facts.2.2.1, s5.facts.2.2.2.1⟩ | exact ⟨s6.facts.1, s6.facts.2.1, s6.facts.2.2.1, s6.facts.2.2.2.1⟩ | (simp [go_sem]; exact ⟨a0, a1, b0, b1⟩))
    (first
      | (go_at_call 66; (with_reducible refine (TI.out _ s2.drew.below).mono ?_); rintro e w4 ⟨A3, n3, c3, rfl, hs3, hb4⟩; have s5 := s2.drew.via hb4)
      | (go_at_call 23; (with_reducible refine (signed_any A3 n3 c3 w4.heap.size _ (!(neg == neg2)) _ w4 hs3 (Nat.le_refl _) (nval_digs _)).mono ?_); rintro e w5 ⟨A4, n4, c4, rfl, hs4, hb5⟩; have s6 := s5.via hb5; clear a0 a1 b0 b1 r0 r1 rf rz; obtain ⟨a0, a1, b0, b1, r0, r1, rf, rz⟩ := s6.facts)
      | fail "no arm")
  all_goals
    go_wp2_with fail
    obtain ⟨q0, q1⟩ := two_set (.bool (ngO (fitO (sgn (!(neg == neg2)) (nval l * nval m))))) (.slice A4 n4 c4) r0 r1
    refine bodyPost_ret (v := .tuple #[.agg #[.bool (ngO (fitO (sgn (!(neg == neg2)) (nval l * nval m)))), .slice A4 n4 c4], .bool (okO (fitO (sgn (!(neg == neg2)) (nval l * nval m))))]) ?_ rfl ⟨_, _, _, rfl, ?_, ?_⟩
    · simp [results, Tryz.f37, go_sem, q0, q1]
    · exact hs4.stored r0 r1 _ _
    · exact (s6.below.setCell (by simp; omega) _).setCell (by simp; omega) _

theorem refmul_any (neg neg2 : Bool) {A A2 : Option Addr} {n n2 c c2 B : Nat} {l m : List Nat} {w : World} (h : Sl w B A n c l) (h2 : Sl w B A2 n2 c2 m) (hB : B ≤ w.heap.size) :
    Calls Tryz.prog 37 #[.agg #[.bool neg, .slice A n c], .agg #[.bool neg2, .slice A2 n2 c2]] w (RetN (mulS neg l neg2 m) w) := by
  cases h1 : rightB neg l with
  | false => rw [show mulS neg l neg2 m = none by unfold mulS; rw [if_neg (by rw [h1]; simp)]]; exact refmul_no1 neg neg2 h hB h1
  | true =>
    cases k1 : rightB neg2 m with
    | false => rw [show mulS neg l neg2 m = none by unfold mulS; rw [if_neg (by rw [k1]; simp)]]; exact refmul_no2 neg neg2 h h2 hB h1 k1
    | true =>
      rw [show mulS neg l neg2 m = fitO (sgn neg (nval l) * sgn neg2 (nval m)) by unfold mulS; rw [if_pos ⟨h1, k1⟩]]
      exact refmul_yes neg neg2 h h2 hB h1 k1
set_option maxRecDepth 100000 in
set_option maxHeartbeats 1000000 in
theorem refadd_no1 (neg neg2 : Bool) {A A2 : Option Addr} {n n2 c c2 B : Nat} {l : List Nat} {w : World} (h : Sl w B A n c l) (hB : B ≤ w.heap.size) (h1 : rightB neg l = false) :
    Calls Tryz.prog 35 #[.agg #[.bool neg, .slice A n c], .agg #[.bool neg2, .slice A2 n2 c2]] w (RetN none w) := by
  have R1 := Lib.hid (refright_to neg (h.more hB) false h1)
  have s0 := Sm.start (w := w) (neg := neg) (A := A) (n := n) (c := c) (neg2 := neg2) (A2 := A2) (n2 := n2) (c2 := c2)
  clear h h1
  go_enter Tryz.func35, Tryz.ntmps35
  go_wp2_with (go_at_call 29; refine (R1.out _ s0.below).mono ?_; rintro e w1 ⟨rfl, hb⟩; have s1 := s0.via hb; obtain ⟨a0, a1, b0, b1, r0, r1, rf, rz⟩ := s1.facts)
  obtain ⟨q0, q1⟩ := two_set (.bool false) (.slice none 0 0) r0 r1
  refine bodyPost_ret (v := .tuple #[.agg #[.bool false, .slice none 0 0], .bool false]) ?_ rfl ⟨_, _, _, rfl, by rw [show digs (vO none).natAbs = [] from digs_zero]; exact Sl.none_, ?_⟩
  · simp [results, Tryz.f35, go_sem, q0, q1]
  · exact (s1.below.setCell (by simp; omega) _).setCell (by simp; omega) _

set_option maxRecDepth 100000 in
set_option maxHeartbeats 1000000 in
theorem refadd_no2 (neg neg2 : Bool) {A A2 : Option Addr} {n n2 c c2 B : Nat} {l m : List Nat} {w : World} (h : Sl w B A n c l) (h2 : Sl w B A2 n2 c2 m) (hB : B ≤ w.heap.size) (h1 : rightB neg l = true) (k1 : rightB neg2 m = false) :
    Calls Tryz.prog 35 #[.agg #[.bool neg, .slice A n c], .agg #[.bool neg2, .slice A2 n2 c2]] w (RetN none w) := by
  have R1 := Lib.hid (refright_to neg (h.more hB) true h1)
  have R2 := Lib.hid (refright_to neg2 (h2.more hB) false k1)
  have s0 := Sm.start (w := w) (neg := neg) (A := A) (n := n) (c := c) (neg2 := neg2) (A2 := A2) (n2 := n2) (c2 := c2)
  clear h h1 h2 k1
  go_enter Tryz.func35, Tryz.ntmps35
  go_wp2_with (first
    | (go_at_call 29; (with_reducible refine (R1.out _ s0.below).mono ?_); rintro e w1 ⟨rfl, hb⟩; have s1 := s0.via hb; obtain ⟨a0, a1, b0, b1, r0, r1, rf, rz⟩ := s1.facts)
    | (go_at_call 29; (with_reducible refine (R2.out _ s1.below).mono ?_); rintro e w2 ⟨rfl, hb⟩; have s2 := s1.via hb; clear a0 a1 b0 b1 r0 r1 rf rz; obtain ⟨a0, a1, b0, b1, r0, r1, rf, rz⟩ := s2.facts)
    | fail "no arm")
  obtain ⟨q0, q1⟩ := two_set (.bool false) (.slice none 0 0) r0 r1
  refine bodyPost_ret (v := .tuple #[.agg #[.bool false, .slice none 0 0], .bool false]) ?_ rfl ⟨_, _, _, rfl, by rw [show digs (vO none).natAbs = [] from digs_zero]; exact Sl.none_, ?_⟩
  · simp [results, Tryz.f35, go_sem, q0, q1]
  · exact (s2.below.setCell (by simp; omega) _).setCell (by simp; omega) _


set_option maxRecDepth 100000 in
set_option maxHeartbeats 2000000 in
theorem refadd_same (ng : Bool) {A A2 : Option Addr} {n n2 c c2 B : Nat} {l m : List Nat} {w : World} (h : Sl w B A n c l) (h2 : Sl w B A2 n2 c2 m) (hB : B ≤ w.heap.size) (h1 : rightB ng l = true) (k1 : rightB ng m = true) :
    Calls Tryz.prog 35 #[.agg #[.bool ng, .slice A n c], .agg #[.bool ng, .slice A2 n2 c2]] w (RetN (fitO (sgn ng (nval l) + sgn ng (nval m))) w) := by
  have R1 := Lib.hid (refright_to ng (h.more hB) true h1)
  have R2 := Lib.hid (refright_to ng (h2.more hB) true k1)
  have hn := (right_true h1 h.dig).2.1
  have hn2 := (right_true k1 h2.dig).2.1
  rw [h.len] at hn
  rw [h2.len] at hn2
  have PL := Lib.hid (fun (W : World) (hW : Below w.heap.size w W) => refplus_any A A2 n c n2 c2 w.heap.size l m W ((h.more hB).below hW) ((h2.more hB).below hW) hW.size (by omega) (by omega))
  have s0 := Sm.start (w := w) (neg := ng) (A := A) (n := n) (c := c) (neg2 := ng) (A2 := A2) (n2 := n2) (c2 := c2)
  rw [sgn_add]
  clear h h1 h2 k1
  go_enter Tryz.func35, Tryz.ntmps35
  go_wp2_with (first
    | (go_at_call 29; (with_reducible refine (R1.out _ s0.below).mono ?_); rintro e w1 ⟨rfl, hb⟩; have s1 := s0.via hb; obtain ⟨a0, a1, b0, b1, r0, r1, rf, rz⟩ := s1.facts)
    | (go_at_call 29; (with_reducible refine (R2.out _ s1.below).mono ?_); rintro e w2 ⟨rfl, hb⟩; have s2 := s1.via hb; clear a0 a1 b0 b1 r0 r1 rf rz; obtain ⟨a0, a1, b0, b1, r0, r1, rf, rz⟩ := s2.facts)
    | fail "no arm")
  go_region_held3 (fun W => W.cell? ⟨w.heap.size, 0, none⟩ = some (.bool ng) ∧ W.cell? ⟨w.heap.size, 1, none⟩ = some (.slice A n c) ∧ W.cell? ⟨w.heap.size + 1, 0, none⟩ = some (.bool ng) ∧ W.cell? ⟨w.heap.size + 1, 1, none⟩ = some (.slice A2 n2 c2))
    (first | exact ⟨a0, a1, b0, b1⟩ | exact ⟨s5.facts.1, s5.facts.2.1, s5.facts.2.2.1, s5.facts.2.2.2.1⟩ | exact ⟨s6.facts.1, s6.facts.2.1, s6.facts.2.2.1, s6.facts.2.2.2.1⟩ | (simp [go_sem]; exact ⟨a0, a1, b0, b1⟩))
    (first
      | (go_at_call 31; (with_reducible refine (PL.out _ s2.drew.below).mono ?_); rintro e w4 ⟨A3, n3, c3, rfl, hs3, hb4⟩; have s5 := s2.drew.via hb4)
      | (go_at_call 23; (with_reducible refine (signed_any A3 n3 c3 w4.heap.size _ ng _ w4 hs3 (Nat.le_refl _) (nval_digs _)).mono ?_); rintro e w5 ⟨A4, n4, c4, rfl, hs4, hb5⟩; have s6 := s5.via hb5; clear a0 a1 b0 b1 r0 r1 rf rz; obtain ⟨a0, a1, b0, b1, r0, r1, rf, rz⟩ := s6.facts)
      | fail "no arm")
  all_goals
    go_wp2_with fail
    obtain ⟨q0, q1⟩ := two_set (.bool (ngO (fitO (sgn ng (nval l + nval m))))) (.slice A4 n4 c4) r0 r1
    refine bodyPost_ret (v := .tuple #[.agg #[.bool (ngO (fitO (sgn ng (nval l + nval m)))), .slice A4 n4 c4], .bool (okO (fitO (sgn ng (nval l + nval m))))]) ?_ rfl ⟨_, _, _, rfl, ?_, ?_⟩
    · simp [results, Tryz.f35, go_sem, q0, q1]
    · exact hs4.stored r0 r1 _ _
    · exact (s6.below.setCell (by simp; omega) _).setCell (by simp; omega) _

set_option maxRecDepth 100000 in
set_option maxHeartbeats 2000000 in
theorem refadd_diff1 (ng : Bool) {A A2 : Option Addr} {n n2 c c2 B : Nat} {l m : List Nat} {w : World} (h : Sl w B A n c l) (h2 : Sl w B A2 n2 c2 m) (hB : B ≤ w.heap.size) (h1 : rightB (!ng) l = true) (k1 : rightB ng m = true) (hlt : nval l < nval m) :
    Calls Tryz.prog 35 #[.agg #[.bool (!ng), .slice A n c], .agg #[.bool ng, .slice A2 n2 c2]] w (RetN (fitO (sgn (!ng) (nval l) + sgn ng (nval m))) w) := by
  have R1 := Lib.hid (refright_to (!ng) (h.more hB) true h1)
  have R2 := Lib.hid (refright_to ng (h2.more hB) true k1)
  have hl := right_true h1 h.dig
  have hm := right_true k1 h2.dig
  have hn2 := hm.2.1
  rw [h2.len] at hn2
  have hnn : n ≤ n2 := by have := canon_len_le hl.1 hm.1.1 (Nat.le_of_lt hlt); rwa [h.len, h2.len] at this
  have hq : (Value.bool ((!ng) == ng)) = .bool false := by cases ng <;> rfl
  have hq2 : ((!ng) == ng) = false := by cases ng <;> rfl
  have hc := cmpv_lt hlt
  have CP := Lib.hid (fun (W : World) (hW : Below w.heap.size w W) => refcompare_any ((h.more hB).below hW) ((h2.more hB).below hW) hW.size hl.1 hm.1)
  have MI := Lib.hid (fun (W : World) (hW : Below w.heap.size w W) => refminus_any _ _ _ _ _ _ _ _ _ W ((h2.more hB).below hW) ((h.more hB).below hW) hW.size (by omega) hnn (Nat.le_of_lt hlt))
  have s0 := Sm.start (w := w) (neg := !ng) (A := A) (n := n) (c := c) (neg2 := ng) (A2 := A2) (n2 := n2) (c2 := c2)
  rw [sgn_sub' ng (Nat.le_of_lt hlt)]
  rw [hc] at CP
  clear h h1 h2 k1 hl hm hlt hc
  go_enter Tryz.func35, Tryz.ntmps35
  go_wp2_with (first
    | (go_at_call 29; (with_reducible refine (R1.out _ s0.below).mono ?_); rintro e w1 ⟨rfl, hb⟩; have s1 := s0.via hb; obtain ⟨a0, a1, b0, b1, r0, r1, rf, rz⟩ := s1.facts)
    | (go_at_call 29; (with_reducible refine (R2.out _ s1.below).mono ?_); rintro e w2 ⟨rfl, hb⟩; have s2 := s1.via hb; clear a0 a1 b0 b1 r0 r1 rf rz; obtain ⟨a0, a1, b0, b1, r0, r1, rf, rz⟩ := s2.facts)
    | (go_at_call 63; (with_reducible refine (CP.out _ s2.below).mono ?_); rintro e w3 ⟨rfl, hb3⟩; replace s2 := s2.via hb3; clear a0 a1 b0 b1 r0 r1 rf rz; obtain ⟨a0, a1, b0, b1, r0, r1, rf, rz⟩ := s2.facts)
    | fail "no arm")
  go_region_held3 (fun W => W.cell? ⟨w.heap.size, 0, none⟩ = some (.bool (!ng)) ∧ W.cell? ⟨w.heap.size, 1, none⟩ = some (.slice A n c) ∧ W.cell? ⟨w.heap.size + 1, 0, none⟩ = some (.bool ng) ∧ W.cell? ⟨w.heap.size + 1, 1, none⟩ = some (.slice A2 n2 c2))
    (first | exact ⟨a0, a1, b0, b1⟩ | exact ⟨s5.facts.1, s5.facts.2.1, s5.facts.2.2.1, s5.facts.2.2.2.1⟩ | exact ⟨s6.facts.1, s6.facts.2.1, s6.facts.2.2.1, s6.facts.2.2.2.1⟩ | (simp [go_sem]; exact ⟨a0, a1, b0, b1⟩))
    (first
      | (go_at_call 32; (with_reducible refine (MI.out _ s2.drew.below).mono ?_); rintro e w4 ⟨A3, n3, c3, rfl, hs3, hb4⟩; have s5 := s2.drew.via hb4)
      | (go_at_call 23; (with_reducible refine (signed_any A3 n3 c3 w4.heap.size _ ng _ w4 hs3 (Nat.le_refl _) (nval_digs _)).mono ?_); rintro e w5 ⟨A4, n4, c4, rfl, hs4, hb5⟩; have s6 := s5.via hb5; clear a0 a1 b0 b1 r0 r1 rf rz; obtain ⟨a0, a1, b0, b1, r0, r1, rf, rz⟩ := s6.facts)
      | fail "no arm")
  all_goals
    go_wp2_with fail
    obtain ⟨q0, q1⟩ := two_set (.bool (ngO (fitO (sgn ng (nval m - nval l))))) (.slice A4 n4 c4) r0 r1
    refine bodyPost_ret (v := .tuple #[.agg #[.bool (ngO (fitO (sgn ng (nval m - nval l)))), .slice A4 n4 c4], .bool (okO (fitO (sgn ng (nval m - nval l))))]) ?_ rfl ⟨_, _, _, rfl, ?_, ?_⟩
    · simp [results, Tryz.f35, go_sem, q0, q1]
    · exact hs4.stored r0 r1 _ _
    · exact (s6.below.setCell (by simp; omega) _).setCell (by simp; omega) _

set_option maxRecDepth 100000 in
set_option maxHeartbeats 2000000 in
theorem refadd_diff2 (ng : Bool) {A A2 : Option Addr} {n n2 c c2 B : Nat} {l m : List Nat} {w : World} (h : Sl w B A n c l) (h2 : Sl w B A2 n2 c2 m) (hB : B ≤ w.heap.size) (h1 : rightB (!ng) l = true) (k1 : rightB ng m = true) (hge : nval m ≤ nval l) :
    Calls Tryz.prog 35 #[.agg #[.bool (!ng), .slice A n c], .agg #[.bool ng, .slice A2 n2 c2]] w (RetN (fitO (sgn (!ng) (nval l) + sgn ng (nval m))) w) := by
  have R1 := Lib.hid (refright_to (!ng) (h.more hB) true h1)
  have R2 := Lib.hid (refright_to ng (h2.more hB) true k1)
  have hl := right_true h1 h.dig
  have hm := right_true k1 h2.dig
  have hn := hl.2.1
  rw [h.len] at hn
  have hnn : n2 ≤ n := by have := canon_len_le hm.1 hl.1.1 hge; rwa [h.len, h2.len] at this
  have hq : (Value.bool ((!ng) == ng)) = .bool false := by cases ng <;> rfl
  have hq2 : ((!ng) == ng) = false := by cases ng <;> rfl
  have hc := cmpv_nn hge
  have CP := Lib.hid (fun (W : World) (hW : Below w.heap.size w W) => refcompare_any ((h.more hB).below hW) ((h2.more hB).below hW) hW.size hl.1 hm.1)
  have MI := Lib.hid (fun (W : World) (hW : Below w.heap.size w W) => refminus_any _ _ _ _ _ _ _ _ _ W ((h.more hB).below hW) ((h2.more hB).below hW) hW.size (by omega) hnn hge)
  have s0 := Sm.start (w := w) (neg := !ng) (A := A) (n := n) (c := c) (neg2 := ng) (A2 := A2) (n2 := n2) (c2 := c2)
  have eg := sgn_sub (!ng) hge
  rw [Bool.not_not] at eg
  rw [eg]
  clear h h1 h2 k1 hl hm hge eg
  go_enter Tryz.func35, Tryz.ntmps35
  go_wp2_with (first
    | (go_at_call 29; (with_reducible refine (R1.out _ s0.below).mono ?_); rintro e w1 ⟨rfl, hb⟩; have s1 := s0.via hb; obtain ⟨a0, a1, b0, b1, r0, r1, rf, rz⟩ := s1.facts)
    | (go_at_call 29; (with_reducible refine (R2.out _ s1.below).mono ?_); rintro e w2 ⟨rfl, hb⟩; have s2 := s1.via hb; clear a0 a1 b0 b1 r0 r1 rf rz; obtain ⟨a0, a1, b0, b1, r0, r1, rf, rz⟩ := s2.facts)
    | (go_at_call 63; (with_reducible refine (CP.out _ s2.below).mono ?_); rintro e w3 ⟨rfl, hb3⟩; replace s2 := s2.via hb3; clear a0 a1 b0 b1 r0 r1 rf rz; obtain ⟨a0, a1, b0, b1, r0, r1, rf, rz⟩ := s2.facts)
    | fail "no arm")
  go_region_held3 (fun W => W.cell? ⟨w.heap.size, 0, none⟩ = some (.bool (!ng)) ∧ W.cell? ⟨w.heap.size, 1, none⟩ = some (.slice A n c) ∧ W.cell? ⟨w.heap.size + 1, 0, none⟩ = some (.bool ng) ∧ W.cell? ⟨w.heap.size + 1, 1, none⟩ = some (.slice A2 n2 c2))
    (first | exact ⟨a0, a1, b0, b1⟩ | exact ⟨s5.facts.1, s5.facts.2.1, s5.facts.2.2.1, s5.facts.2.2.2.1⟩ | exact ⟨s6.facts.1, s6.facts.2.1, s6.facts.2.2.1, s6.facts.2.2.2.1⟩ | (simp [go_sem]; exact ⟨a0, a1, b0, b1⟩))
    (first
      | (go_at_call 32; (with_reducible refine (MI.out _ s2.drew.below).mono ?_); rintro e w4 ⟨A3, n3, c3, rfl, hs3, hb4⟩; have s5 := s2.drew.via hb4)
      | (go_at_call 23; (with_reducible refine (signed_any A3 n3 c3 w4.heap.size _ (!ng) _ w4 hs3 (Nat.le_refl _) (nval_digs _)).mono ?_); rintro e w5 ⟨A4, n4, c4, rfl, hs4, hb5⟩; have s6 := s5.via hb5; clear a0 a1 b0 b1 r0 r1 rf rz; obtain ⟨a0, a1, b0, b1, r0, r1, rf, rz⟩ := s6.facts)
      | fail "no arm")
  all_goals
    go_wp2_with fail
    obtain ⟨q0, q1⟩ := two_set (.bool (ngO (fitO (sgn (!ng) (nval l - nval m))))) (.slice A4 n4 c4) r0 r1
    refine bodyPost_ret (v := .tuple #[.agg #[.bool (ngO (fitO (sgn (!ng) (nval l - nval m)))), .slice A4 n4 c4], .bool (okO (fitO (sgn (!ng) (nval l - nval m))))]) ?_ rfl ⟨_, _, _, rfl, ?_, ?_⟩
    · simp [results, Tryz.f35, go_sem, q0, q1]
    · exact hs4.stored r0 r1 _ _
    · exact (s6.below.setCell (by simp; omega) _).setCell (by simp; omega) _

theorem refadd_any (neg neg2 : Bool) {A A2 : Option Addr} {n n2 c c2 B : Nat} {l m : List Nat} {w : World} (h : Sl w B A n c l) (h2 : Sl w B A2 n2 c2 m) (hB : B ≤ w.heap.size) :
    Calls Tryz.prog 35 #[.agg #[.bool neg, .slice A n c], .agg #[.bool neg2, .slice A2 n2 c2]] w (RetN (sumS neg l neg2 m neg2) w) := by
  cases h1 : rightB neg l with
  | false => rw [show sumS neg l neg2 m neg2 = none by unfold sumS; rw [if_neg (by rw [h1]; simp)]]; exact refadd_no1 neg neg2 h hB h1
  | true =>
    cases k1 : rightB neg2 m with
    | false => rw [show sumS neg l neg2 m neg2 = none by unfold sumS; rw [if_neg (by rw [k1]; simp)]]; exact refadd_no2 neg neg2 h h2 hB h1 k1
    | true =>
      rw [show sumS neg l neg2 m neg2 = fitO (sgn neg (nval l) + sgn neg2 (nval m)) by unfold sumS; rw [if_pos ⟨h1, k1⟩]]
      by_cases hq : neg = neg2
      · subst hq; exact refadd_same neg h h2 hB h1 k1
      · obtain rfl : neg = !neg2 := by revert hq; cases neg <;> cases neg2 <;> simp
        rcases Nat.lt_or_ge (nval l) (nval m) with hv | hv
        · exact refadd_diff1 neg2 h h2 hB h1 k1 hv
        · exact refadd_diff2 neg2 h h2 hB h1 k1 hv

theorem cmpv_swap (a b : Nat) : cmpv b a = -cmpv a b := by unfold cmpv; repeat' split
                                                           all_goals omega
set_option maxRecDepth 100000 in
set_option maxHeartbeats 1000000 in
theorem refcmp_no1 (neg neg2 : Bool) {A A2 : Option Addr} {n n2 c c2 B : Nat} {l : List Nat} {w : World} (h : Sl w B A n c l) (hB : B ≤ w.heap.size) (h1 : rightB neg l = false) :
    Calls Tryz.prog 40 #[.agg #[.bool neg, .slice A n c], .agg #[.bool neg2, .slice A2 n2 c2]] w fun e w' => e = .returned (.int .i64 0) ∧ Below w.heap.size w w' := by
  have R1 := Lib.hid (refright_to neg (h.more hB) false h1)
  have s0 := S2.start (w := w) (neg := neg) (A := A) (n := n) (c := c) (neg2 := neg2) (A2 := A2) (n2 := n2) (c2 := c2)
  clear h h1
  go_enter Tryz.func40, Tryz.ntmps40
  go_wp2_with (go_at_call 29; refine (R1.out _ s0.below).mono ?_; rintro e w1 ⟨rfl, hb⟩; have s1 := s0.via hb; obtain ⟨a0, a1, b0, b1⟩ := s1.facts)
  go_ret
  exact ⟨rfl, s1.below⟩
set_option maxRecDepth 100000 in
set_option maxHeartbeats 1000000 in
theorem refcmp_no2 (neg neg2 : Bool) {A A2 : Option Addr} {n n2 c c2 B : Nat} {l m : List Nat} {w : World} (h : Sl w B A n c l) (h2 : Sl w B A2 n2 c2 m) (hB : B ≤ w.heap.size) (h1 : rightB neg l = true) (k1 : rightB neg2 m = false) :
    Calls Tryz.prog 40 #[.agg #[.bool neg, .slice A n c], .agg #[.bool neg2, .slice A2 n2 c2]] w fun e w' => e = .returned (.int .i64 0) ∧ Below w.heap.size w w' := by
  have R1 := Lib.hid (refright_to neg (h.more hB) true h1)
  have R2 := Lib.hid (refright_to neg2 (h2.more hB) false k1)
  have s0 := S2.start (w := w) (neg := neg) (A := A) (n := n) (c := c) (neg2 := neg2) (A2 := A2) (n2 := n2) (c2 := c2)
  clear h h1 h2 k1
  go_enter Tryz.func40, Tryz.ntmps40
  go_wp2_with (first
    | (go_at_call 29; (with_reducible refine (R1.out _ s0.below).mono ?_); rintro e w1 ⟨rfl, hb⟩; have s1 := s0.via hb; obtain ⟨a0, a1, b0, b1⟩ := s1.facts)
    | (go_at_call 29; (with_reducible refine (R2.out _ s1.below).mono ?_); rintro e w2 ⟨rfl, hb⟩; have s2 := s1.via hb; clear a0 a1 b0 b1; obtain ⟨a0, a1, b0, b1⟩ := s2.facts)
    | fail "no arm")
  go_ret
  exact ⟨rfl, s2.below⟩
set_option maxRecDepth 100000 in
set_option maxHeartbeats 2000000 in
theorem refcmp_yes (neg neg2 : Bool) {A A2 : Option Addr} {n n2 c c2 B : Nat} {l m : List Nat} {w : World} (h : Sl w B A n c l) (h2 : Sl w B A2 n2 c2 m) (hB : B ≤ w.heap.size) (h1 : rightB neg l = true) (k1 : rightB neg2 m = true) :
    Calls Tryz.prog 40 #[.agg #[.bool neg, .slice A n c], .agg #[.bool neg2, .slice A2 n2 c2]] w fun e w' => e = .returned (.int .i64 (cmpB neg neg2 (cmpv (nval l) (nval m)))) ∧ Below w.heap.size w w' := by
  have R1 := Lib.hid (refright_to neg (h.more hB) true h1)
  have R2 := Lib.hid (refright_to neg2 (h2.more hB) true k1)
  have hl := right_true h1 h.dig
  have hm := right_true k1 h2.dig
  have CP := Lib.hid (fun (W : World) (hW : Below w.heap.size w W) => refcompare_any ((h.more hB).below hW) ((h2.more hB).below hW) hW.size hl.1 hm.1)
  have CQ := Lib.hid (fun (W : World) (hW : Below w.heap.size w W) => refcompare_any ((h2.more hB).below hW) ((h.more hB).below hW) hW.size hm.1 hl.1)
  rw [cmpv_swap] at CQ
  have s0 := S2.start (w := w) (neg := neg) (A := A) (n := n) (c := c) (neg2 := neg2) (A2 := A2) (n2 := n2) (c2 := c2)
  obtain ⟨o, ho⟩ : ∃ o, cmpv (nval l) (nval m) = o := ⟨_, rfl⟩
  obtain ⟨o1, o2⟩ := cmpv_b (nval l) (nval m)
  rw [ho] at CP CQ o1 o2 ⊢
  have hw : IntKind.i64.wrap (-o) = -o := by rw [IntKind.wrap_i64]; omega
  clear h h1 h2 k1 hl hm ho
  cases neg <;> cases neg2
  all_goals
    go_enter Tryz.func40, Tryz.ntmps40
    go_wp2_with (first
      | (go_at_call 29; (with_reducible refine (R1.out _ s0.below).mono ?_); rintro e w1 ⟨rfl, hb⟩; have s1 := s0.via hb; obtain ⟨a0, a1, b0, b1⟩ := s1.facts)
      | (go_at_call 29; (with_reducible refine (R2.out _ s1.below).mono ?_); rintro e w2 ⟨rfl, hb⟩; have s2 := s1.via hb; clear a0 a1 b0 b1; obtain ⟨a0, a1, b0, b1⟩ := s2.facts)
      | (go_at_call 63; (with_reducible refine (CP.out _ s2.below).mono ?_); rintro e w3 ⟨rfl, hb⟩; have s3 := s2.via hb; clear a0 a1 b0 b1; obtain ⟨a0, a1, b0, b1⟩ := s3.facts)
      | (go_at_call 63; (with_reducible refine (CQ.out _ s2.below).mono ?_); rintro e w3 ⟨rfl, hb⟩; have s3 := s2.via hb; clear a0 a1 b0 b1; obtain ⟨a0, a1, b0, b1⟩ := s3.facts)
      | fail "no arm")
    go_ret
    first
      | exact ⟨by simp [cmpB], s3.below⟩
      | exact ⟨by simp [cmpB], s2.below⟩

theorem refcmp_any (neg neg2 : Bool) {A A2 : Option Addr} {n n2 c c2 B : Nat} {l m : List Nat} {w : World} (h : Sl w B A n c l) (h2 : Sl w B A2 n2 c2 m) (hB : B ≤ w.heap.size) :
    Calls Tryz.prog 40 #[.agg #[.bool neg, .slice A n c], .agg #[.bool neg2, .slice A2 n2 c2]] w fun e w' => e = .returned (.int .i64 (cmpS neg l neg2 m)) ∧ Below w.heap.size w w' := by
  cases h1 : rightB neg l with
  | false => rw [show cmpS neg l neg2 m = 0 by unfold cmpS; rw [if_neg (by rw [h1]; simp)]]; exact refcmp_no1 neg neg2 h hB h1
  | true =>
    cases k1 : rightB neg2 m with
    | false => rw [show cmpS neg l neg2 m = 0 by unfold cmpS; rw [if_neg (by rw [k1]; simp)]]; exact refcmp_no2 neg neg2 h h2 hB h1 k1
    | true =>
      have hp : ∀ {b : Bool} {k : List Nat}, rightB b k = true → Dig k → b = true → 0 < nval k := fun {b k} hr hd hb => by
        rcases Nat.eq_zero_or_pos (nval k) with h0 | h0
        · have := (right_true hr hd).2.2 (canon_zero (right_true hr hd).1 h0); rw [hb] at this; cases this
        · exact h0
      rw [show cmpS neg l neg2 m = cmpB neg neg2 (cmpv (nval l) (nval m)) by unfold cmpS; rw [if_pos ⟨h1, k1⟩, cmpB_eq (hp h1 h.dig) (hp k1 h2.dig)]]
      exact refcmp_yes neg neg2 h h2 hB h1 k1
set_option maxRecDepth 100000 in
set_option maxHeartbeats 1000000 in
theorem refint_no1 (neg : Bool) {A : Option Addr} {n c B : Nat} {l : List Nat} {w : World} (h : Sl w B A n c l) (hB : B ≤ w.heap.size) (h1 : rightB neg l = false) :
    Calls Tryz.prog 38 #[.agg #[.bool neg, .slice A n c]] w (RetI none w) := by
  have R1 := Lib.hid (refright_to neg (h.more hB) false h1)
  have s0 := S1.start (w := w) (neg := neg) (A := A) (n := n) (c := c)
  clear h h1
  go_enter Tryz.func38, Tryz.ntmps38
  go_wp2_with (go_at_call 29; refine (R1.out _ s0.below).mono ?_; rintro e w1 ⟨rfl, hb⟩; have s1 := s0.via hb; obtain ⟨a0, a1⟩ := s1.facts)
  go_ret2
  exact ⟨rfl, s1.below⟩

set_option maxRecDepth 100000 in
set_option maxHeartbeats 1000000 in
theorem refint_no2 (neg : Bool) {A : Option Addr} {n c B : Nat} {l : List Nat} {w : World} (h : Sl w B A n c l) (hB : B ≤ w.heap.size) (h1 : rightB neg l = true) (hn : 2 < n) :
    Calls Tryz.prog 38 #[.agg #[.bool neg, .slice A n c]] w (RetI none w) := by
  have R1 := Lib.hid (refright_to neg (h.more hB) true h1)
  have s0 := S1.start (w := w) (neg := neg) (A := A) (n := n) (c := c)
  have hn2 : (2 : Int) < (n : Int) := by omega
  clear h h1
  go_enter Tryz.func38, Tryz.ntmps38
  go_wp2_with (go_at_call 29; refine (R1.out _ s0.below).mono ?_; rintro e w1 ⟨rfl, hb⟩; have s1 := s0.via hb; obtain ⟨a0, a1⟩ := s1.facts)
  go_ret2
  exact ⟨rfl, s1.below⟩

set_option maxRecDepth 100000 in
set_option maxHeartbeats 2000000 in
theorem refint_yes (neg : Bool) {A : Option Addr} {n c B : Nat} {l : List Nat} {w : World} (h : Sl w B A n c l) (hB : B ≤ w.heap.size) (h1 : rightB neg l = true) (hn : n ≤ 2) :
    Calls Tryz.prog 38 #[.agg #[.bool neg, .slice A n c]] w (RetI (fit64 (sgn neg (nval l))) w) := by
  have R1 := Lib.hid (refright_to neg (h.more hB) true h1)
  have hl := right_true h1 h.dig
  have hp : neg = true → 0 < nval l := fun e => by
    rcases Nat.eq_zero_or_pos (nval l) with h0 | h0
    · have := hl.2.2 (canon_zero hl.1 h0); rw [e] at this; cases this
    · exact h0
  have WO := Lib.hid (fun (W : World) (hW : Below w.heap.size w W) => refword_any ((h.more hB).below hW) hn)
  obtain ⟨v, hv⟩ : ∃ v, nval l = v := ⟨_, rfl⟩
  rw [hv] at WO hp ⊢
  have s0 := S1.start (w := w) (neg := neg) (A := A) (n := n) (c := c)
  have hn2 : ¬ (2 : Int) < (n : Int) := by omega
  clear h h1 hl hv hn
  obtain ⟨x, hx⟩ : ∃ x : Int, (v : Int) = x := ⟨_, rfl⟩
  have hx0 : 0 ≤ x := by omega
  have hxp : neg = true → 0 < x := fun e => by have := hp e; omega
  have hsg : sgn neg v = if neg then -x else x := by unfold sgn; rw [hx]
  rw [hx] at WO
  rw [hsg]
  clear hp hsg hx
  cases neg
  · rcases Int.lt_or_le x 9223372036854775808 with h5 | h5
    · have e1 := pos_i64 hx0 h5
      have e2 : x < 9223372036854775808 := by omega
      rw [show fit64 (if false = true then -x else x) = some x by unfold fit64; rw [if_pos (by simp; omega)]; rfl]
      clear h5 hxp
      go_enter Tryz.func38, Tryz.ntmps38
      go_wp2_with (first
        | (go_at_call 29; (with_reducible refine (R1.out _ s0.below).mono ?_); rintro e w1 ⟨rfl, hb⟩; have s1 := s0.via hb; obtain ⟨a0, a1⟩ := s1.facts)
        | (go_at_call 58; (with_reducible refine (WO.out _ s1.below).mono ?_); rintro e w2 ⟨rfl, rfl⟩)
        | fail "no arm")
      go_ret2
      exact ⟨rfl, s1.below⟩
    · have e2 : ¬ x < 9223372036854775808 := by omega
      rw [show fit64 (if false = true then -x else x) = none by unfold fit64; rw [if_neg (by simp; omega)]]
      clear h5 hxp
      go_enter Tryz.func38, Tryz.ntmps38
      go_wp2_with (first
        | (go_at_call 29; (with_reducible refine (R1.out _ s0.below).mono ?_); rintro e w1 ⟨rfl, hb⟩; have s1 := s0.via hb; obtain ⟨a0, a1⟩ := s1.facts)
        | (go_at_call 58; (with_reducible refine (WO.out _ s1.below).mono ?_); rintro e w2 ⟨rfl, rfl⟩)
        | fail "no arm")
      go_ret2
      exact ⟨rfl, s1.below⟩
  · have hp0 := hxp rfl
    rcases Int.lt_or_le 9223372036854775808 x with h5 | h5
    · have e2 : ¬ x ≤ 9223372036854775808 := by omega
      rw [show fit64 (if true = true then -x else x) = none by unfold fit64; rw [if_neg (by simp; omega)]]
      go_enter Tryz.func38, Tryz.ntmps38
      go_wp2_with (first
        | (go_at_call 29; (with_reducible refine (R1.out _ s0.below).mono ?_); rintro e w1 ⟨rfl, hb⟩; have s1 := s0.via hb; obtain ⟨a0, a1⟩ := s1.facts)
        | (go_at_call 58; (with_reducible refine (WO.out _ s1.below).mono ?_); rintro e w2 ⟨rfl, rfl⟩)
        | fail "no arm")
      go_ret2
      exact ⟨rfl, s1.below⟩
    · have e2 : x ≤ 9223372036854775808 := by omega
      have e1 := neg_u64 hp0 h5
      rw [show fit64 (if true = true then -x else x) = some (-x) by unfold fit64; rw [if_pos (by simp; omega)]; rfl]
      go_enter Tryz.func38, Tryz.ntmps38
      go_wp2_with (first
        | (go_at_call 29; (with_reducible refine (R1.out _ s0.below).mono ?_); rintro e w1 ⟨rfl, hb⟩; have s1 := s0.via hb; obtain ⟨a0, a1⟩ := s1.facts)
        | (go_at_call 58; (with_reducible refine (WO.out _ s1.below).mono ?_); rintro e w2 ⟨rfl, rfl⟩)
        | fail "no arm")
      go_ret2
      exact ⟨rfl, s1.below⟩

theorem refint_any (neg : Bool) {A : Option Addr} {n c B : Nat} {l : List Nat} {w : World} (h : Sl w B A n c l) (hB : B ≤ w.heap.size) :
    Calls Tryz.prog 38 #[.agg #[.bool neg, .slice A n c]] w (RetI (intS neg l) w) := by
  cases h1 : rightB neg l with
  | false => rw [show intS neg l = none by unfold intS; rw [if_neg (by rw [h1]; simp)]]; exact refint_no1 neg h hB h1
  | true =>
    rcases Nat.lt_or_ge 2 n with hn | hn
    · rw [show intS neg l = none by unfold intS; rw [if_neg (by rw [h.len]; omega)]]; exact refint_no2 neg h hB h1 hn
    · rw [show intS neg l = fit64 (sgn neg (nval l)) by unfold intS; rw [if_pos ⟨h1, by rw [h.len]; exact hn⟩]]; exact refint_yes neg h hB h1 hn
end Go.Proofs.YthnickjbknpmhaaGreatDoor

namespace Go.Proofs.YthnickjbknpmhaaGreatDoor
open Go.RowKit Go.Shelf

set_option maxRecDepth 100000 in
set_option maxHeartbeats 1000000 in
theorem negated_any (neg : Bool) (A : Option Addr) (n c : Nat) (g : Bool) (w : World) (hg : (!neg && decide ((0 : Int) < n)) = g) :
    Calls Tryz.prog 65 #[.agg #[.bool neg, .slice A n c]] w fun e w' => e = .returned (.agg #[.bool g, .slice A n c]) ∧ Below w.heap.size w w' := by
  subst hg
  have hA0 : (w.alloc (.cells #[.bool neg, .slice A n c] 26)).heap.size = w.heap.size + 1 := by simp
  cases neg
  · by_cases hn : (0 : Int) < n
    · go_enter Tryz.func65, Tryz.ntmps65
      go_wp2_with fail
      refine bodyPost_ret (v := .agg #[.bool true, .slice A n c]) ?_ rfl ⟨?_, ?_⟩
      · simp [results, Tryz.f65, go_sem]
        omega
      · simp
        omega
      · go_grown
    · go_enter Tryz.func65, Tryz.ntmps65
      go_wp2_with fail
      refine bodyPost_ret (v := .agg #[.bool false, .slice A n c]) ?_ rfl ⟨?_, ?_⟩
      · simp [results, Tryz.f65, go_sem]
        omega
      · simp
        omega
      · go_grown
  · go_enter Tryz.func65, Tryz.ntmps65
    go_wp2_with fail
    refine bodyPost_ret (v := .agg #[.bool false, .slice A n c]) ?_ rfl ⟨?_, ?_⟩
    · simp [results, Tryz.f65, go_sem]
    · simp
    · go_grown

theorem sub_same (neg neg2 : Bool) {l m : List Nat} {n : Nat} {g : Bool} (hm : rightB neg2 m = true) (hn : m.length = n) (hg : (!neg2 && decide ((0 : Int) < n)) = g) : sumS neg l g m g = sumS neg l neg2 m (!neg2) := by
  subst hg
  rcases Nat.eq_zero_or_pos n with h0 | h0
  · obtain rfl : m = [] := List.eq_nil_of_length_eq_zero (by omega)
    have h2 : neg2 = false := by cases neg2 <;> simp [rightB] at hm ⊢
    subst h2
    have e : (!false && decide ((0 : Int) < n)) = false := by simp; omega
    rw [e]
    unfold sumS
    rw [hm]
    simp [sgn, nval]
  · have e : (!neg2 && decide ((0 : Int) < n)) = !neg2 := by simp; omega
    rw [e]
    have hr : rightB (!neg2) m = true := by
      have hne : m ≠ [] := fun e => by rw [e] at hn; simp at hn; omega
      have hemp : m.isEmpty = false := by cases m <;> simp_all
      unfold rightB at hm ⊢
      rw [hemp] at hm ⊢
      simpa using hm
    unfold sumS
    rw [hm, hr]

set_option maxRecDepth 100000 in
set_option maxHeartbeats 2000000 in
theorem refsub_no (neg neg2 : Bool) {A A2 : Option Addr} {n n2 c c2 B : Nat} {m : List Nat} {w : World} (h2 : Sl w B A2 n2 c2 m) (hB : B ≤ w.heap.size) (k1 : rightB neg2 m = false) :
    Calls Tryz.prog 36 #[.agg #[.bool neg, .slice A n c], .agg #[.bool neg2, .slice A2 n2 c2]] w (RetN none w) := by
  have R1 := Lib.hid (refright_to neg2 (h2.more hB) false k1)
  have s0 := Sm.start (w := w) (neg := neg) (A := A) (n := n) (c := c) (neg2 := neg2) (A2 := A2) (n2 := n2) (c2 := c2)
  clear h2 k1
  go_enter Tryz.func36, Tryz.ntmps36
  go_wp2_with (go_at_call 29; refine (R1.out _ s0.below).mono ?_; rintro e w1 ⟨rfl, hb⟩; have s1 := s0.via hb; obtain ⟨a0, a1, b0, b1, r0, r1, rf, rz⟩ := s1.facts)
  obtain ⟨q0, q1⟩ := two_set (.bool false) (.slice none 0 0) r0 r1
  refine bodyPost_ret (v := .tuple #[.agg #[.bool false, .slice none 0 0], .bool false]) ?_ rfl ⟨_, _, _, rfl, by rw [show digs (vO none).natAbs = [] from digs_zero]; exact Sl.none_, ?_⟩
  · simp [results, Tryz.f36, go_sem, q0, q1]
  · exact (s1.below.setCell (by simp; omega) _).setCell (by simp; omega) _

set_option maxRecDepth 100000 in
set_option maxHeartbeats 2000000 in
theorem refsub_any (neg neg2 : Bool) {A A2 : Option Addr} {n n2 c c2 B : Nat} {l m : List Nat} {w : World} (h : Sl w B A n c l) (h2 : Sl w B A2 n2 c2 m) (hB : B ≤ w.heap.size) :
    Calls Tryz.prog 36 #[.agg #[.bool neg, .slice A n c], .agg #[.bool neg2, .slice A2 n2 c2]] w (RetN (sumS neg l neg2 m (!neg2)) w) := by
  cases k1 : rightB neg2 m with
  | false => rw [show sumS neg l neg2 m (!neg2) = none by unfold sumS; rw [if_neg (by rw [k1]; simp)]]; exact refsub_no neg neg2 h2 hB k1
  | true =>
    obtain ⟨g, hg⟩ : ∃ g, (!neg2 && decide ((0 : Int) < n2)) = g := ⟨_, rfl⟩
    rw [← sub_same neg neg2 (l := l) k1 h2.len hg]
    have R1 := Lib.hid (refright_to neg2 (h2.more hB) true k1)
    have NE := Lib.hid (fun (W : World) => negated_any neg2 A2 n2 c2 g W hg)
    have AD := Lib.hid (fun (W : World) (hW : Below w.heap.size w W) => refadd_any neg g ((h.more hB).below hW) ((h2.more hB).below hW) hW.size)
    have s0 := Sm.start (w := w) (neg := neg) (A := A) (n := n) (c := c) (neg2 := neg2) (A2 := A2) (n2 := n2) (c2 := c2)
    obtain ⟨r, hr⟩ : ∃ r, sumS neg l g m g = r := ⟨_, rfl⟩
    rw [hr] at AD ⊢
    clear h h2 k1 hg hr
    go_enter Tryz.func36, Tryz.ntmps36
    go_wp2_with (go_at_call 29; refine (R1.out _ s0.below).mono ?_; rintro e w1 ⟨rfl, hb⟩; have s1 := s0.via hb; obtain ⟨a0, a1, b0, b1, r0, r1, rf, rz⟩ := s1.facts)
    go_region_held3 (fun W => W.cell? ⟨w.heap.size, 0, none⟩ = some (.bool neg) ∧ W.cell? ⟨w.heap.size, 1, none⟩ = some (.slice A n c) ∧ W.cell? ⟨w.heap.size + 1, 0, none⟩ = some (.bool neg2) ∧ W.cell? ⟨w.heap.size + 1, 1, none⟩ = some (.slice A2 n2 c2))
      (first | exact ⟨a0, a1, b0, b1⟩ | exact ⟨s5.facts.1, s5.facts.2.1, s5.facts.2.2.1, s5.facts.2.2.2.1⟩ | exact ⟨s6.facts.1, s6.facts.2.1, s6.facts.2.2.1, s6.facts.2.2.2.1⟩ | (simp [go_sem]; exact ⟨a0, a1, b0, b1⟩))
      (first
        | (go_at_call 65; (with_reducible refine (NE.out _).mono ?_); rintro e w4 ⟨rfl, hb4⟩; have s5 := s1.drew.via hb4)
        | (go_at_call 35; (with_reducible refine (AD.out _ s5.below).mono ?_); rintro e w5 ⟨A4, n4, c4, rfl, hs4, hb5⟩; have s6 := s5.via hb5; clear a0 a1 b0 b1 r0 r1 rf rz; obtain ⟨a0, a1, b0, b1, r0, r1, rf, rz⟩ := s6.facts)
        | fail "no arm")
    all_goals
      go_wp2_with fail
      obtain ⟨q0, q1⟩ := two_set (.bool (ngO r)) (.slice A4 n4 c4) r0 r1
      refine bodyPost_ret (v := .tuple #[.agg #[.bool (ngO r), .slice A4 n4 c4], .bool (okO r)]) ?_ rfl ⟨_, _, _, rfl, ?_, ?_⟩
      · simp [results, Tryz.f36, go_sem, q0, q1]
      · exact hs4.stored r0 r1 _ _
      · exact (s6.below.setCell (by simp; omega) _).setCell (by simp; omega) _
end Go.Proofs.YthnickjbknpmhaaGreatDoor
