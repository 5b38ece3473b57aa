/-
  The contracts of the reference's at, Right and plus.
  The contract of the reference's times.
  The contract of the reference's Text.
  A region of the reference's Parse: ten times the digits, and a digit.
-/
import Derived.Test.YthnickjbknpmhaaDoorNumMade
import Derived.Test.YthnickjbknpmhaaDoorNumVals
import Derived.Lib.SlBytesRow
import Derived.Test.YthnickjbknpmhaaDoorNumReg2
namespace Go.Proofs.YthnickjbknpmhaaDoor
open Go.RowKit Go.Shelf

theorem reftrim_val {A : Option Addr} {n c B v : Nat} {l : List Nat} {w : World} (h : Sl w B A n c l) (hv : nval l = v) :
    Calls Tryd.prog 29 #[.slice A n c] w fun e w' => ∃ n', e = .returned (.slice A n' c) ∧ Sl w B A n' c (digs v) ∧ w = w' :=
  (reftrim_any A n c B l w h.1 h.2.1 h.2.2).mono fun _ _ ⟨he, hw⟩ => ⟨_, he, h.val hv, hw⟩

theorem at_any {A : Option Addr} {n c B k : Nat} {l : List Nat} {w : World} (h : Sl w B A n c l) :
    Calls Tryd.prog 59 #[.slice A n c, .int .i64 (k : Int)] w fun e w' => e = .returned (.int .u64 (dg l k : Nat)) ∧ w = w' := by
  have HL := Lib.hid h.len
  go_enter Tryd.func59, Tryd.ntmps59
  by_cases hk : (k : Int) < n
  · obtain ⟨ad, rfl, hb, hc⟩ := h.at_ (k := k) (by omega)
    have hd := dg_lt h.dig k
    have e1 : IntKind.u64.wrap (dg l k : Int) = (dg l k : Nat) := by rw [IntKind.wrap_u64]; omega
    clear h
    go_wp2
    go_ret
    exact ⟨ret_int (by omega), rfl⟩
  · have e := dg_past (l := l) (k := k) (by have := HL.out; omega)
    clear h
    go_wp2
    go_ret
    exact ⟨rfl, rfl⟩

set_option maxHeartbeats 400000 in
theorem refright_any (neg : Bool) (A : Option Addr) (n c B : Nat) (l : List Nat) (w : World) (h : RD w B A n l) (hB : B ≤ w.heap.size) (hn : n ≤ c) :
    Calls Tryd.prog 28 #[.agg #[.bool neg, .slice A n c]] w fun e w' => e = .returned (.bool (rightB neg l)) ∧ Below w.heap.size w w' := by
  have HL := Lib.hid h.len
  have H := Lib.hid h
  clear h
  go_enter Tryd.func28, Tryd.ntmps28
  cases n with
  | zero =>
    cases neg <;> go_wp2
    all_goals go_ret
    all_goals refine ⟨ret_bool ?_, by go_grown⟩
    all_goals rw [rightB_nil HL.out]
    all_goals rfl
  | succ j =>
    obtain ⟨ad, hl, rfl, hb, hc, hd⟩ := H.out.at_ (k := j) (by omega)
    have R := Lib.hid (rightB_cons (neg := neg) HL.out hl)
    have hca : ∀ o, (w.alloc o).cell? (ad.add j) = some (.int .u32 (l[j] : Nat)) := fun o => (World.cell?_alloc_lt w o _ (by rw [block_of_add]; omega)).trans hc
    clear hc hb hd
    by_cases h64 : (j : Int) + 1 ≤ 64
    · by_cases hz : l[j] = 0
      · rw [hz] at hca R
        go_wp2
        all_goals go_ret
        all_goals refine ⟨ret_bool ?_, by go_grown⟩
        all_goals rw [R.out]
        all_goals simp
      · have hz' : ((l[j] : Int) != 0) = true := by simp; exact hz
        go_wp2
        all_goals go_ret
        all_goals refine ⟨ret_bool ?_, by go_grown⟩
        all_goals rw [R.out]
        all_goals simp [hz]
        all_goals omega
    · go_wp2
      all_goals go_ret
      all_goals refine ⟨ret_bool ?_, by go_grown⟩
      all_goals rw [R.out]
      all_goals simp
      all_goals omega

theorem slice_inj {A A2 : Option Addr} {n c n2 c2 : Nat} (h : Value.slice A n c = .slice A2 n2 c2) : A = A2 ∧ n = n2 ∧ c = c2 := by cases h; exact ⟨rfl, rfl, rfl⟩
theorem OwnD.sl_len {w : World} {base g n cap : Nat} {l : List Nat} {d : Nat} (h : OwnD w base (.slice (some ⟨g, 0, none⟩) (n + 1) cap) (l ++ [d])) : Sl w w.heap.size (some ⟨g, 0, none⟩) (n + 1) cap (l ++ [d]) := by
  obtain ⟨A3, c3, he3, hs3, _⟩ := h.sl
  obtain ⟨rfl, h3, rfl⟩ := slice_inj he3
  rw [← h3] at hs3
  exact hs3
/-- A step of the sum. -/
theorem sum_step {O P P' L M d cy x y cy' : Nat} (hp : P' = P * 4294967296) (hd : d + 4294967296 * cy' = cy + x + y) (h : O + P * cy = L + M) : O + P * d + P' * cy' = (L + P * x) + (M + P * y) := by
  subst hp
  have h1 : P * (d + 4294967296 * cy') = P * (cy + x + y) := by rw [hd]
  simp only [Nat.mul_add, ← Nat.mul_assoc] at h1
  omega
theorem sum_int {cy x y : Nat} (h0 : cy < 4294967296) (h1 : x < 4294967296) (h2 : y < 4294967296) :
    IntKind.u64.wrap (IntKind.u64.wrap ((cy : Int) + x) + y) = ((cy + x + y : Nat) : Int) := by
  rw [IntKind.wrap_u64, IntKind.wrap_u64]; omega
theorem shr32 (s : Nat) : (s : Int) / 4294967296 = ((s / 4294967296 : Nat) : Int) := by omega

set_option maxRecDepth 100000 in
set_option maxHeartbeats 2000000 in
theorem refplus_any (A A2 : Option Addr) (n c n2 c2 B : Nat) (l m : List Nat) (w : World) (h : Sl w B A n c l) (h2 : Sl w B A2 n2 c2 m) (hB : B ≤ w.heap.size) (hn : n ≤ 1000) (hn2 : n2 ≤ 1000) :
    Calls Tryd.prog 38 #[.slice A n c, .slice A2 n2 c2] w (RetD (nval l + nval m) w) := by
  have HL := Lib.hid h.len
  have HL2 := Lib.hid h2.len
  have H := Lib.hid h
  have H2 := Lib.hid h2
  clear h h2
  obtain ⟨i0, hi, hz0, hz1, hz2⟩ := info_parts Tryd.infoU32
  have AT := Lib.hid (fun (W : World) (hW : Below w.heap.size w W) (k : Nat) => at_any (k := k) (H.out.below (hW.mono hB)))
  have AT2 := Lib.hid (fun (W : World) (hW : Below w.heap.size w W) (k : Nat) => at_any (k := k) (H2.out.below (hW.mono hB)))
  go_enter Tryd.func38, Tryd.ntmps38
  go_wp2_with fail
  go_loopw [5, 6, 7] (fun x y z W => ∃ (k cy : Nat) (o : List Nat), k ≤ 1000 ∧ cy < 4294967296 ∧ y = .int .u64 cy ∧ z = .int .i64 k ∧ Below w.heap.size w W ∧ Hid (OwnD W w.heap.size x o ∧ o.length = k ∧ nval o + 4294967296 ^ k * cy = nval (l.take k) + nval (m.take k))) (fun _ _ z _ => 1000 - (intOf z).toNat)
  case atStart => exact ⟨0, 0, [], by omega, by omega, rfl, rfl, Below.refl _ _, Lib.hid ⟨OwnD.nil _ _, rfl, by simp [nval]⟩⟩
  case round =>
    obtain ⟨k, cy, o, hk, hcy, rfl, rfl, hBB, hI⟩ := hrel
    have hd1 := dg_lt H.out.dig k
    have hd2 := dg_lt H2.out.dig k
    by_cases hlt : (k : Int) < n
    · obtain ⟨s, hs⟩ : ∃ s, cy + dg l k + dg m k = s := ⟨_, rfl⟩
      obtain ⟨d, hsd⟩ : ∃ d, s % 4294967296 = d := ⟨_, rfl⟩
      obtain ⟨c', hsc⟩ : ∃ c', s / 4294967296 = c' := ⟨_, rfl⟩
      have ed : ((cy : Int) + (dg l k : Nat) + (dg m k : Nat)) % 4294967296 = (d : Int) := by omega
      have ev : ((cy : Int) + (dg l k : Nat) + (dg m k : Nat)) / 4294967296 = (c' : Int) := by omega
      have hdl : d < 4294967296 := by omega
      have hcl' : c' < 4294967296 := by omega
      have hdm : d + 4294967296 * c' = cy + dg l k + dg m k := by omega
      obtain ⟨hO, hlo, hI2⟩ := hI.out
      have hb0 : Below wr.heap.size wr (wr.alloc (.cells #[.int .u32 (d : Nat)] 50)) := (Below.refl _ _).alloc (Nat.le_refl _) _
      have hb1 := hBB.trans (hb0.mono hBB.size)
      have hO1 := Lib.hid (hO.below hb0 (Nat.le_refl _))
      have hnews : ∀ j u, [Value.int .u32 (d : Nat)][j]? = some u → (wr.alloc (.cells #[.int .u32 (d : Nat)] 50)).cell? ((⟨wr.heap.size, 0, none⟩ : Addr).add j) = some u := by
        intro j u hj
        match j, hj with
        | 0, hj => simp at hj; subst hj; simp [Addr.add]
      have hcl : ∀ u ∈ [Value.int .u32 (d : Nat)], u.oneCell' = true := by intro u hu; simp at hu; subst hu; rfl
      have hmx : o.length + 1 ≤ maxLen := by unfold maxLen; omega
      have hby2 : (o.length + 1) * 4 ≤ 140737488355328 := by omega
      have hbs : w.heap.size ≤ (wr.alloc (.cells #[.int .u32 (d : Nat)] 50)).heap.size := hb1.size
      have hst := Lib.hid (And.intro hlo (And.intro hI2 (And.intro hs hdm)))
      have tk1 : Hid True := trivial
      have tk2 : Hid True := trivial
      clear hO hI hs hsd hsc hdm hlo hI2
      go_wp2_with (first
        | (clear tk1; go_at_call 59; (with_reducible refine (AT.out _ hBB _).mono ?_); rintro e w1 ⟨rfl, rfl⟩)
        | (clear tk2; go_at_call 59; (with_reducible refine (AT2.out _ hBB _).mono ?_); rintro e w1 ⟨rfl, rfl⟩)
        | (at_builtin; refine wpList_append_lies _ rfl _ _ 23 rfl w.heap.size 50 i0 (.int .u32 0) 1 4 Tryd.underlying23 hi hz0 hz1 hz2 rfl (by decide) _ _ _ rfl hO1.out.1 ⟨wr.heap.size, 0, none⟩ 1 1 [.int .u32 (d : Nat)] rfl rfl hnews hcl (by decide) hmx hby2 hbs _ rfl ?_; intro g cap w1 hown' hgrow _ hlt; have hP := Lib.hid (hO1.out.pushed hdl hown' hgrow hbs); clear hown' hgrow)
        | fail "no arm")
      refine ⟨⟨k + 1, c', o ++ [d], by omega, by omega, rfl, rfl, hb1.trans (hP.out.2.mono (Nat.le_refl _)), Lib.hid ⟨hP.out.1, by rw [List.length_append, hst.out.1]; rfl, ?_⟩⟩, ?_⟩
      · rw [nval_snoc, hst.out.1, nval_take_dg l, nval_take_dg m]
        exact sum_step (Nat.pow_succ ..) hst.out.2.2.2 hst.out.2.1
      · simp only [intOf]
        omega
    · by_cases hlt2 : (k : Int) < n2
      · obtain ⟨s, hs⟩ : ∃ s, cy + dg l k + dg m k = s := ⟨_, rfl⟩
        obtain ⟨d, hsd⟩ : ∃ d, s % 4294967296 = d := ⟨_, rfl⟩
        obtain ⟨c', hsc⟩ : ∃ c', s / 4294967296 = c' := ⟨_, rfl⟩
        have ed : ((cy : Int) + (dg l k : Nat) + (dg m k : Nat)) % 4294967296 = (d : Int) := by omega
        have ev : ((cy : Int) + (dg l k : Nat) + (dg m k : Nat)) / 4294967296 = (c' : Int) := by omega
        have hdl : d < 4294967296 := by omega
        have hcl' : c' < 4294967296 := by omega
        have hdm : d + 4294967296 * c' = cy + dg l k + dg m k := by omega
        obtain ⟨hO, hlo, hI2⟩ := hI.out
        have hb0 : Below wr.heap.size wr (wr.alloc (.cells #[.int .u32 (d : Nat)] 50)) := (Below.refl _ _).alloc (Nat.le_refl _) _
        have hb1 := hBB.trans (hb0.mono hBB.size)
        have hO1 := Lib.hid (hO.below hb0 (Nat.le_refl _))
        have hnews : ∀ j u, [Value.int .u32 (d : Nat)][j]? = some u → (wr.alloc (.cells #[.int .u32 (d : Nat)] 50)).cell? ((⟨wr.heap.size, 0, none⟩ : Addr).add j) = some u := by
          intro j u hj
          match j, hj with
          | 0, hj => simp at hj; subst hj; simp [Addr.add]
        have hcl : ∀ u ∈ [Value.int .u32 (d : Nat)], u.oneCell' = true := by intro u hu; simp at hu; subst hu; rfl
        have hmx : o.length + 1 ≤ maxLen := by unfold maxLen; omega
        have hby2 : (o.length + 1) * 4 ≤ 140737488355328 := by omega
        have hbs : w.heap.size ≤ (wr.alloc (.cells #[.int .u32 (d : Nat)] 50)).heap.size := hb1.size
        have hst := Lib.hid (And.intro hlo (And.intro hI2 (And.intro hs hdm)))
        have tk1 : Hid True := trivial
        have tk2 : Hid True := trivial
        clear hO hI hs hsd hsc hdm hlo hI2
        go_wp2_with (first
          | (clear tk1; go_at_call 59; (with_reducible refine (AT.out _ hBB _).mono ?_); rintro e w1 ⟨rfl, rfl⟩)
          | (clear tk2; go_at_call 59; (with_reducible refine (AT2.out _ hBB _).mono ?_); rintro e w1 ⟨rfl, rfl⟩)
          | (at_builtin; refine wpList_append_lies _ rfl _ _ 23 rfl w.heap.size 50 i0 (.int .u32 0) 1 4 Tryd.underlying23 hi hz0 hz1 hz2 rfl (by decide) _ _ _ rfl hO1.out.1 ⟨wr.heap.size, 0, none⟩ 1 1 [.int .u32 (d : Nat)] rfl rfl hnews hcl (by decide) hmx hby2 hbs _ rfl ?_; intro g cap w1 hown' hgrow _ hlt; have hP := Lib.hid (hO1.out.pushed hdl hown' hgrow hbs); clear hown' hgrow)
          | fail "no arm")
        refine ⟨⟨k + 1, c', o ++ [d], by omega, by omega, rfl, rfl, hb1.trans (hP.out.2.mono (Nat.le_refl _)), Lib.hid ⟨hP.out.1, by rw [List.length_append, hst.out.1]; rfl, ?_⟩⟩, ?_⟩
        · rw [nval_snoc, hst.out.1, nval_take_dg l, nval_take_dg m]
          exact sum_step (Nat.pow_succ ..) hst.out.2.2.2 hst.out.2.1
        · simp only [intOf]
          omega
      · have hend : n ≤ k ∧ n2 ≤ k := by omega
        have hfin : Hid (nval (l.take k) + nval (m.take k) = nval l + nval m) := by unfold Hid; rw [List.take_of_length_le (by have := HL.out; omega), List.take_of_length_le (by have := HL2.out; omega)]
        have ed : (cy : Int) % 4294967296 = (cy : Int) := by omega
        obtain ⟨hO, hlo, hI2⟩ := hI.out
        have hb0 : Below wr.heap.size wr (wr.alloc (.cells #[.int .u32 (cy : Nat)] 50)) := (Below.refl _ _).alloc (Nat.le_refl _) _
        have hb1 := hBB.trans (hb0.mono hBB.size)
        have hO1 := Lib.hid (hO.below hb0 (Nat.le_refl _))
        have hnews : ∀ j u, [Value.int .u32 (cy : Nat)][j]? = some u → (wr.alloc (.cells #[.int .u32 (cy : Nat)] 50)).cell? ((⟨wr.heap.size, 0, none⟩ : Addr).add j) = some u := by
          intro j u hj
          match j, hj with
          | 0, hj => simp at hj; subst hj; simp [Addr.add]
        have hcl : ∀ u ∈ [Value.int .u32 (cy : Nat)], u.oneCell' = true := by intro u hu; simp at hu; subst hu; rfl
        have hmx : o.length + 1 ≤ maxLen := by unfold maxLen; omega
        have hby2 : (o.length + 1) * 4 ≤ 140737488355328 := by omega
        have hbs : w.heap.size ≤ (wr.alloc (.cells #[.int .u32 (cy : Nat)] 50)).heap.size := hb1.size
        have hst := Lib.hid (And.intro hlo hI2)
        clear hO hI hlo hI2
        go_wp2_with (first
          | (at_builtin; refine wpList_append_lies _ rfl _ _ 23 rfl w.heap.size 50 i0 (.int .u32 0) 1 4 Tryd.underlying23 hi hz0 hz1 hz2 rfl (by decide) _ _ _ rfl hO1.out.1 ⟨wr.heap.size, 0, none⟩ 1 1 [.int .u32 (cy : Nat)] rfl rfl hnews hcl (by decide) hmx hby2 hbs _ rfl ?_; intro g cap w1 hown' hgrow _ hlt; have hP := Lib.hid (hO1.out.pushed hcy hown' hgrow hbs); have hs5 := Lib.hid hP.out.1.sl_len; clear hown' hgrow)
          | (go_at_call 29; (with_reducible refine (reftrim_val (v := nval l + nval m) hs5.out (by rw [nval_snoc, hst.out.1, hst.out.2, hfin.out])).mono ?_); rintro e w2 ⟨n', rfl, hs4, rfl⟩)
          | fail "no arm")
        go_ret
        exact ⟨_, _, _, rfl, hs4, hb1.trans (hP.out.2.mono (Nat.le_refl _))⟩
end Go.Proofs.YthnickjbknpmhaaDoor

namespace Go.Proofs.YthnickjbknpmhaaDoor
open Go.RowKit Go.Shelf

theorem run_make_u32 (n : Nat) (hn : n ≤ 1000000) : ∀ w, (Instr.makeSlice 23 (.int .i64 (n : Int)) (.int .i64 (n : Int))).run Tryd.prog w = .ok (.slice (some ⟨w.heap.size, 0, none⟩) n n) (w.alloc (.cells (madeCells #[.int .u32 0] n) 50)) :=
  run_make_row' (P := Tryd.prog) 23 50 (.int .u32 0) 4 Tryd.underlying23 Tryd.infoU32 rfl .i64 .i64 n (by omega) (by omega)
theorem mc_ref {cy d x y : Nat} (h1 : cy < 4294967296) (h2 : d < 4294967296) (hx : x < 4294967296) (hy : y < 4294967296) :
    ∃ s : Nat, IntKind.u64.wrap ((cy : Int) + d + IntKind.u64.wrap ((x : Int) * y)) = (s : Int) ∧ (s : Int) % 4294967296 = ((mcD cy d x y : Nat) : Int) ∧ (s : Int) / 4294967296 = ((mcC cy d x y : Nat) : Int) := by
  have h := mul_lt32 hx hy
  have e : (x : Int) * y = ((x * y : Nat) : Int) := by simp
  rw [e]
  unfold mcD mcC
  generalize x * y = z at *
  refine ⟨cy + (d + z), ?_, ?_, ?_⟩
  · rw [IntKind.wrap_u64, IntKind.wrap_u64]; omega
  · omega
  · omega

set_option maxRecDepth 100000 in
set_option maxHeartbeats 2000000 in
theorem reftimes_any (A A2 : Option Addr) (n c n2 c2 B : Nat) (l m : List Nat) (w : World) (h : Sl w B A n c l) (h2 : Sl w B A2 n2 c2 m) (hB : B ≤ w.heap.size) (hn : n ≤ 1000) (hn2 : n2 ≤ 1000) :
    Calls Tryd.prog 39 #[.slice A n c, .slice A2 n2 c2] w (RetD (nval l * nval m) w) := by
  have HL := Lib.hid h.len
  have HL2 := Lib.hid h2.len
  have H := Lib.hid h
  have H2 := Lib.hid h2
  clear h h2
  have hmk := run_make_u32 (n + n2) (by omega)
  have ec : ((n + n2 : Nat) : Int) = (n : Int) + n2 := by omega
  rw [ec] at hmk
  clear ec
  go_enter Tryd.func39, Tryd.ntmps39
  go_wp2
  clear hmk
  go_loopw [6] (fun k wr => ∃ (i : Nat) (o : List Nat), i ≤ n ∧ k = .int .i64 i ∧ DBk wr w.heap.size 50 o ∧ Hid (o.length = n + n2 ∧ Dig o ∧ nval o = nval (l.take i) * nval m ∧ ∀ p, i + n2 ≤ p → dg o p = 0) ∧ Below w.heap.size w wr) (fun k _ => n - (intOf k).toNat)
  case atStart => exact ⟨0, List.replicate (n + n2) 0, by omega, rfl, DBk.new w _ (n + n2), by unfold Hid; exact ⟨by simp, dig_zeros _, by simp [nval, nval_zeros], fun p _ => by unfold dg; simp [List.getD_eq_getElem?_getD, List.getElem?_replicate]; split <;> rfl⟩, by go_grown⟩
  case round =>
    obtain ⟨i, o, hi, rfl, hO, hI, hBw⟩ := hrel
    by_cases hlt : i < n
    · obtain ⟨ad, rfl, hb, hc⟩ := (H.out.below (hBw.mono hB)).at_ (k := i) hlt
      have hd1 := dg_lt H.out.dig i
      have hz := hO.lt
      obtain ⟨x, hx⟩ : ∃ x, dg l i = x := ⟨_, rfl⟩
      rw [hx] at hc hd1
      have HX := Lib.hid hx
      clear hx
      go_wp2
      clear hc
      obtain ⟨wo, hwo⟩ : ∃ wo : World, wo = wr := ⟨_, rfl⟩
      subst hwo
      go_loopw [7, 8] (fun b k wr => ∃ (j cy : Nat) (o : List Nat), j ≤ n2 ∧ cy < 4294967296 ∧ k = .int .i64 j ∧ b = .int .u64 cy ∧ DBk wr w.heap.size 50 o ∧ Hid (o.length = n + n2 ∧ Dig o ∧ nval o + 4294967296 ^ (i + j) * cy = nval (l.take i) * nval m + 4294967296 ^ i * x * nval (m.take j) ∧ ∀ p, i + n2 ≤ p → dg o p = 0) ∧ Below w.heap.size w wr) (fun _ k _ => n2 - (intOf k).toNat)
      case atStart => exact ⟨0, 0, o, by omega, by omega, rfl, rfl, hO, by obtain ⟨i1, i2, i3, i4⟩ := hI.out; unfold Hid; exact ⟨i1, i2, by simp [nval, i3], i4⟩, hBw⟩
      case round =>
        obtain ⟨j, cy, o, hj, hcy, rfl, rfl, hO, hI, hBw⟩ := hrel
        by_cases hlt2 : j < n2
        · obtain ⟨ad2, rfl, hb2, hc2⟩ := (H2.out.below (hBw.mono hB)).at_ (k := j) hlt2
          have hd2 := dg_lt H2.out.dig j
          obtain ⟨ad', e, _, hc⟩ := (H.out.below (hBw.mono hB)).at_ (k := i) hlt
          cases e
          rw [HX.out] at hc
          have hcg := hO.cell (k := i + j) (by rw [hI.out.1]; omega)
          have hfg := hO.frozen (i + j)
          have hd3 := dg_lt hI.out.2.1 (i + j)
          have hz2 := hO.lt
          obtain ⟨d, hd⟩ : ∃ d, dg o (i + j) = d := ⟨_, rfl⟩
          obtain ⟨y, hy⟩ : ∃ y, dg m j = y := ⟨_, rfl⟩
          rw [hd] at hcg hd3
          rw [hy] at hc2 hd2
          have hs := mc_spec hcy hd3 hd1 hd2
          have hN : Hid ((o.set (i + j) (mcD cy d x y)).length = n + n2 ∧ Dig (o.set (i + j) (mcD cy d x y)) ∧ nval (o.set (i + j) (mcD cy d x y)) + 4294967296 ^ (i + (j + 1)) * mcC cy d x y = nval (l.take i) * nval m + 4294967296 ^ i * x * nval (m.take (j + 1)) ∧ ∀ p, i + n2 ≤ p → dg (o.set (i + j) (mcD cy d x y)) p = 0) := by
            obtain ⟨i1, i2, i3, i4⟩ := hI.out
            refine ⟨by simpa using i1, dig_set i2 hs.2.1, ?_, fun p hp => by rw [dg_set_ne (by omega)]; exact i4 p hp⟩
            have hset := nval_set o (i + j) (mcD cy d x y) (by omega)
            rw [hd] at hset
            rw [nval_take_dg m, hy, Nat.mul_add (4294967296 ^ i * x), ← Nat.add_assoc (nval (l.take i) * nval m)]
            refine times_step (P := 4294967296 ^ i) (Nat.pow_succ (n := 4294967296) (m := i + j)) hs.1 hset ?_ i3
            rw [Nat.pow_add, Nat.mul_assoc (4294967296 ^ i) (4294967296 ^ j), Nat.mul_assoc (4294967296 ^ i) x, Nat.mul_left_comm (4294967296 ^ j) x y]
          have hO2 := fun q => DBk.set (show DBk (wr.drewN q) w.heap.size 50 o from hO) (i + j) (mcD cy d x y)
          obtain ⟨s, E, ed, ev⟩ := mc_ref hcy hd3 hd1 hd2
          have hcy2 := hs.2.2
          obtain ⟨c', hc'⟩ : ∃ c', mcC cy d x y = c' := ⟨_, rfl⟩
          obtain ⟨d', hd'⟩ : ∃ d', mcD cy d x y = d' := ⟨_, rfl⟩
          rw [hc'] at ev hcy2 hN
          rw [hd'] at ed hO2 hN
          have hij : IntKind.i64.wrap ((i : Int) + j) = (i : Int) + j := by rw [IntKind.wrap_i64]; omega
          have hij0 : (0 : Int) ≤ (i : Int) + j := by omega
          have hijn : ((i : Int) + j).toNat = i + j := by omega
          have hijl : (i : Int) + j < (n : Int) + n2 := by omega
          have wd : IntKind.u64.wrap (d : Int) = (d : Int) := by rw [IntKind.wrap_u64]; omega
          have wx : IntKind.u64.wrap (x : Int) = (x : Int) := by rw [IntKind.wrap_u64]; omega
          have wy : IntKind.u64.wrap (y : Int) = (y : Int) := by rw [IntKind.wrap_u64]; omega
          clear hO hI hd hy hs hc' hd'
          go_upto_region 9 with fail
          go_quiet (fail)
          go_wp2
          go_roundw
          case rel => exact ⟨j + 1, _, _, by omega, hcy2, by go_num, rfl, hO2 _, hN, (below_drewN hBw _).setCell (by simp) _⟩
          case measure => simp [intOf]; omega
        · have hjn : j = n2 := by omega
          have hz2 := hO.lt
          have hN : Hid ((o.set (i + n2) cy).length = n + n2 ∧ Dig (o.set (i + n2) cy) ∧ nval (o.set (i + n2) cy) = nval (l.take (i + 1)) * nval m ∧ ∀ p, (i + 1) + n2 ≤ p → dg (o.set (i + n2) cy) p = 0) := by
            obtain ⟨i1, i2, i3, i4⟩ := hI.out
            refine ⟨by simpa using i1, dig_set i2 hcy, ?_, fun p hp => by rw [dg_set_ne (by omega)]; exact i4 p (by omega)⟩
            have hset := nval_set o (i + n2) cy (by omega)
            rw [i4 _ (Nat.le_refl _), Nat.mul_zero, Nat.add_zero] at hset
            rw [hset, nval_take_dg l, HX.out, Nat.add_mul, ← hjn, i3]
            rw [List.take_of_length_le (l := m) (by have := HL2.out; omega)]
          have hO2 := hO.set (i + n2) cy
          have hcg := hO.cell (k := i + n2) (by rw [hI.out.1]; omega)
          have hfg := hO.frozen (i + n2)
          have ecy : IntKind.u64.wrap (cy : Int) = cy := by rw [IntKind.wrap_u64]; omega
          have ecy2 : (cy : Int) % 4294967296 = cy := by omega
          clear hO hI hjn
          go_wp2
          go_roundw
          case rel => exact ⟨i + 1, _, by omega, by go_num, hO2, hN, by go_grown⟩
          case measure => simp [intOf]; omega
    · have hin : i = n := by omega
      have hv : Hid (nval o = nval l * nval m) := by
        obtain ⟨i1, i2, i3, i4⟩ := hI.out
        rw [List.take_of_length_le (l := l) (by have := HL.out; omega)] at i3
        exact i3
      have hsl : Sl wr (w.heap.size + 1) (some ⟨w.heap.size, 0, none⟩) (n + n2) (n + n2) o := by
        obtain ⟨i1, i2, i3, i4⟩ := hI.out
        have := hO.sl i2 (B := w.heap.size + 1) (by omega) (by omega)
        rwa [i1] at this
      have hz := hO.lt
      clear hin hO hI
      go_wp2_with (go_at_call 29; refine (reftrim_val hsl hv.out).mono ?_; rintro e w' ⟨n', rfl, hs', rfl⟩)
      go_ret
      exact ⟨_, _, _, rfl, hs'.more (by omega), hBw⟩
end Go.Proofs.YthnickjbknpmhaaDoor

namespace Go.Proofs.YthnickjbknpmhaaDoor
open Go.RowKit Go.Shelf

/-- A block whose first cells are digits. -/
def PB (W : World) (g : Nat) (o : List Nat) : Prop := ∃ rest : List Value, W.heap[g]? = some (.cells (u32s o ++ rest).toArray 50 (0, 0))
theorem PB.lt {W : World} {g : Nat} {o : List Nat} (h : PB W g o) : g < W.heap.size := by obtain ⟨r, h⟩ := h; exact lt_of_heap h
theorem PB.cell {W : World} {g k : Nat} {o : List Nat} (h : PB W g o) (hk : k < o.length) : W.cell? ⟨g, k, none⟩ = some (.int .u32 (dg o k : Nat)) := by
  obtain ⟨r, h⟩ := h
  rw [cell_of_heap h, dg_get hk]
  simp [u32s, hk, List.getElem?_append]
theorem PB.frozen {W : World} {g : Nat} {o : List Nat} (h : PB W g o) (k : Nat) : W.frozen? ⟨g, k, none⟩ = false := by obtain ⟨r, h⟩ := h; exact frozen_of_heap h
theorem PB.set {W : World} {g k d : Nat} {o : List Nat} (h : PB W g o) (hk : k < o.length) : PB (W.setCell ⟨g, k, none⟩ (.int .u32 (d : Nat))) g (o.set k d) := by
  obtain ⟨r, h⟩ := h
  refine ⟨r, ?_⟩
  simp only [World.setCell, Array.getElem?_modify, h, if_true, Option.map_some]
  congr 2
  apply Array.toList_inj.1
  simp [u32s, List.map_set, hk]
theorem PB.below {W W1 : World} {g : Nat} {o : List Nat} (h : PB W g o) (hb : Below W.heap.size W W1) : PB W1 g o := by
  obtain ⟨r, h2⟩ := h
  exact ⟨r, (hb.block g (lt_of_heap h2)).trans h2⟩
theorem PB.alloc_ {W : World} {g : Nat} {o : List Nat} (h : PB W g o) (x : Obj) : PB (W.alloc x) g o := h.below ((Below.refl _ _).alloc (Nat.le_refl _) x)
theorem PB.take {W : World} {g : Nat} {o : List Nat} (h : PB W g o) (k : Nat) : PB W g (o.take k) := by
  obtain ⟨r, h⟩ := h
  refine ⟨u32s (o.drop k) ++ r, ?_⟩
  rw [← List.append_assoc, show u32s (o.take k) ++ u32s (o.drop k) = u32s o by unfold u32s; rw [← List.map_append, List.take_append_drop]]
  exact h
theorem PB.trim {W : World} {g : Nat} {o : List Nat} (h : PB W g o) (hd : Dig o) : PB W g (digs (nval o)) := by
  have := h.take (trimL o).length
  rwa [trimL_take, trimL_digs hd] at this
theorem PB.sl {W : World} {g c : Nat} {o : List Nat} (h : PB W g o) (hd : Dig o) (hc : o.length ≤ c) (hm : c ≤ 9223372036854775807) : Sl W W.heap.size (some ⟨g, 0, none⟩) o.length c o := by
  refine ⟨⟨⟨by simp [u32s_length], fun _ => ⟨_, rfl, h.lt, fun j u hu => ?_⟩⟩, hd⟩, hc, hm⟩
  have e : (⟨g, 0, none⟩ : Addr).add j = ⟨g, j, none⟩ := by unfold Addr.add; split <;> simp [*]
  have hj : j < o.length := by
    have := (List.getElem?_eq_some_iff.1 hu).1
    rwa [u32s_length] at this
  rw [e, h.cell hj, u32s_get hu hj, dg_get hj]
theorem PB.of_own {W : World} {base g n cap : Nat} {l : List Nat} (h : OwnD W base (.slice (some ⟨g, 0, none⟩) n cap) l) (hn : n = l.length) : PB W g l ∧ base ≤ g ∧ n ≤ cap ∧ cap ≤ 9223372036854775807 := by
  subst hn
  obtain ⟨⟨h1, h2⟩, hd⟩ := h
  rcases h2 with ⟨e, _⟩ | ⟨g', cap', cur, e, hb, hg, hn, hc, hs, ht⟩
  · cases e
  · cases e
    refine ⟨⟨cur.toList.drop (l.length * 1), ?_⟩, hb, hn, hc⟩
    rw [hg]
    congr 2
    apply Array.toList_inj.1
    rw [← ht]
    simp
theorem dg_take_eq {a b : List Nat} {j : Nat} (h : a.take (j + 1) = b.take (j + 1)) : dg a j = dg b j := by
  unfold dg
  have h1 : (a.take (j + 1))[j]? = (b.take (j + 1))[j]? := by rw [h]
  rw [List.getElem?_take_of_lt (Nat.lt_succ_self j), List.getElem?_take_of_lt (Nat.lt_succ_self j)] at h1
  rw [List.getD_eq_getElem?_getD, List.getD_eq_getElem?_getD, h1]
theorem refright_at {w : World} {A : Option Addr} {n c : Nat} {l : List Nat} (neg : Bool) (h : Sl w w.heap.size A n c l) (b : Bool) (hb : rightB neg l = b) (W : World) (hW : Below w.heap.size w W) :
    Calls Tryd.prog 28 #[.agg #[.bool neg, .slice A n c]] W fun e w' => e = .returned (.bool b) ∧ Below W.heap.size W w' := by
  subst hb
  exact refright_any neg A n c w.heap.size l W (h.below hW).1 hW.size h.2.1

theorem reftext_no (neg : Bool) {A : Option Addr} {n c B : Nat} {l : List Nat} {w : World} (h : Sl w B A n c l) (hB : B ≤ w.heap.size) (h1 : rightB neg l = false) :
    Calls Tryd.prog 11 #[.agg #[.bool neg, .slice A n c]] w fun e w' => e = .returned (.string ⟨#[]⟩) ∧ Below w.heap.size w w' := by
  have R1 := Lib.hid (refright_at neg (h.more hB) false h1)
  have s0 := S1.start (w := w) (neg := neg) (A := A) (n := n) (c := c)
  clear h h1
  go_enter Tryd.func11, Tryd.ntmps11
  go_wp2_with (go_at_call 28; refine (R1.out _ s0.below).mono ?_; rintro e w1 ⟨rfl, hb⟩; have s1 := s0.via hb; obtain ⟨a0, a1⟩ := s1.facts)
  go_ret
  exact ⟨rfl, s1.below⟩

attribute [local go_sem] bapp

set_option maxRecDepth 100000 in
set_option maxHeartbeats 4000000 in
theorem reftext_yes (neg : Bool) {A : Option Addr} {n c B : Nat} {l : List Nat} {w : World} (h : Sl w B A n c l) (hB : B ≤ w.heap.size) (h1 : rightB neg l = true) :
    Calls Tryd.prog 11 #[.agg #[.bool neg, .slice A n c]] w fun e w' => e = .returned (.string ⟨(Lib.itoa (sgn neg (nval l))).toArray⟩) ∧ Below w.heap.size w w' := by
  have R1 := Lib.hid (refright_at neg (h.more hB) true h1)
  have hl := right_true h1 h.dig
  have hlb : nval l < big := (canon_fits hl.1).1 hl.2.1
  have hz : Hid (nval l = 0 → neg = false) := Lib.hid fun h0 => hl.2.2 (canon_zero hl.1 h0)
  have H := Lib.hid (h.more hB)
  have s0 := S1.start (w := w) (neg := neg) (A := A) (n := n) (c := c)
  have hd : l = digs (nval l) := digs_of hl.1
  obtain ⟨v, hv⟩ : ∃ v, nval l = v := ⟨_, rfl⟩
  rw [hv] at hd hz hlb ⊢
  subst hd
  have hn64 := few_digs h hlb
  obtain ⟨i0, hi, hz0, hz1, hz2⟩ := info_parts Tryd.infoU32
  clear h1 hl hv
  by_cases hv0 : v = 0
  · obtain rfl : neg = false := hz.out hv0
    have hn0 : ((n : Int) == 0) = true := by have := (none_digs h).2 hv0; simp; omega
    clear h hz
    go_enter Tryd.func11, Tryd.ntmps11
    go_wp2_with (go_at_call 28; refine (R1.out _ s0.below).mono ?_; rintro e w1 ⟨rfl, hb⟩; have s1 := s0.via hb; obtain ⟨a0, a1⟩ := s1.facts)
    go_ret
    have e0 : Lib.itoa (sgn false 0) = [48] := by rw [show sgn false 0 = 0 from rfl, Lib.itoa, if_neg (by omega)]; exact dec_zero
    exact ⟨by subst hv0; rw [e0]; rfl, s1.below⟩
  · have hn0 : ((n : Int) == 0) = false := by have := (none_digs h).1; simp; omega
    have hnp : 0 < n := by have := (none_digs h).1; omega
    obtain ⟨ad, rfl, _⟩ := h.at_ (k := 0) hnp
    have hlen := h.len
    clear h hz
    go_enter Tryd.func11, Tryd.ntmps11
    go_upto_region 6 with (go_at_call 28; refine (R1.out _ s0.below).mono ?_; rintro e w1 ⟨rfl, hb⟩; have s1 := s0.via hb; clear hb; obtain ⟨a0, a1⟩ := s1.facts)
    have b0 : Below w1.heap.size w1 (w1.alloc (.cells #[] 50)) := (Below.refl _ _).alloc (Nat.le_refl _) _
    have hs1 := s1.size
    obtain ⟨a2, a3⟩ := (s1.via b0).facts
    have hown : (w1.alloc (.cells #[] 50)).ownsRow (w.heap.size + 1) 50 1 (.slice (some ⟨w1.heap.size, 0, none⟩) 0 0) 0 [] := ⟨rfl, .inr ⟨w1.heap.size, 0, #[], rfl, hs1, heap_alloc_at _ _ _ rfl, Nat.le_refl _, by decide, rfl, rfl⟩⟩
    have hnews := ((H.out.below s1.below).below (b0.mono s1.below.size)).news hnp
    have hnl : (u32s (digs v)).length = n * 1 := by rw [u32s_length, hlen, Nat.mul_one]
    have hmx : 0 + n ≤ maxLen := by unfold maxLen; omega
    have hby2 : (0 + n) * 4 ≤ 140737488355328 := by omega
    have hbs : w.heap.size + 1 ≤ (w1.alloc (.cells #[] 50)).heap.size := by simp; omega
    go_wp2_with (first
      | (at_builtin; go_loud (refine wpList_append_lies _ rfl _ _ 23 rfl (w.heap.size + 1) 50 i0 (.int .u32 0) 1 4 Tryd.underlying23 hi hz0 hz1 hz2 rfl (by decide) _ _ _ rfl hown ad n c (u32s (digs v)) rfl hnl hnews u32s_cell hnp hmx hby2 hbs _ rfl ?_; intro g cap w2 hown' hgrow _ hlt; have s2 : S1 w neg (some ad) n c w2 := below_of_grown (s1.via b0) hgrow hbs hs1; have hP := Lib.hid (PB.of_own (n := n) (l := digs v) ⟨by rw [hlen]; rw [Nat.zero_add] at hown'; exact hown', (digs_canon v).1⟩ hlen.symm); clear hown' hgrow))
      | fail "no arm")
    clear hown hnews hnl hmx hby2 hbs hs1 a0 a1 a2 a3 b0
    go_loopw [3, 4] (fun x y wr => ∃ t g c3 p n3, x = .string ⟨List.toArray t⟩ ∧ y = .slice (some ⟨g, 0, none⟩) n3 c3 ∧ S1 w neg (some ad) n c wr ∧ w.heap.size + 1 ≤ g ∧ n3 ≤ c3 ∧ c3 ≤ 9223372036854775807 ∧ Hid (PB wr g (digs p) ∧ (digs p).length = n3 ∧ p < big ∧ dd v = dd p ++ t)) (fun _ y wr => slv wr y)
    case atStart => exact ⟨[], g, cap, v, n, rfl, rfl, s2, hP.out.2.1, hP.out.2.2.1, hP.out.2.2.2, Lib.hid ⟨hP.out.1, hlen, hlb, by simp⟩⟩
    case round =>
      clear hP s2 s1 s0 R1 hlen
      obtain ⟨t, g, c3, p, n3, rfl, rfl, sr, hg, hc3, hm3, hI⟩ := hrel
      have hsl := Lib.hid (hI.out.1.sl (digs_canon p).1 (by rw [hI.out.2.1]; exact hc3) hm3)
      rw [hI.out.2.1] at hsl
      have h64 := few_digs hsl.out hI.out.2.2.1
      have htl := txI_len hlb hI.out.2.2.2
      by_cases hbr : (0 : Int) < n3
      · have hp0 : p ≠ 0 := fun e => by have := (none_digs hsl.out).2 e; omega
        have hmeas : Hid (slv wr (.slice (some ⟨g, 0, none⟩) n3 c3) = p) := Lib.hid (by rw [slv_eq hsl.out, nval_digs])
        obtain ⟨wo, hwo⟩ : ∃ wo : World, wo = wr := ⟨_, rfl⟩
        subst hwo
        have hIo := hI
        go_wp2_with fail
        go_loopw [5, 6] (fun x y wr => ∃ (j r : Nat) (z : Int) (o : List Nat), j ≤ n3 ∧ r < 10 ∧ x = .int .u64 r ∧ y = .int .i64 z ∧ z = (j : Int) - 1 ∧ S1 w neg (some ad) n c wr ∧ Hid (PB wr g o ∧ o.length = n3 ∧ Dig o ∧ o.take j = (digs p).take j ∧ nval ((digs p).drop j) = nval (o.drop j) * 10 + r)) (fun _ y _ => (intOf y + 1).toNat)
        case atStart => exact ⟨n3, 0, _, digs p, by omega, by omega, rfl, rfl, rfl, sr, Lib.hid ⟨hI.out.1, hI.out.2.1, (digs_canon p).1, rfl, by rw [← hI.out.2.1]; simp [nval]⟩⟩
        case round =>
          clear sr hI hsl
          obtain ⟨j, r, z, o, hj, hr, rfl, rfl, hz, sr, hI⟩ := hrel
          cases j with
          | zero =>
            obtain rfl : z = -1 := by omega
            clear hz
            have hcv : (convert 48 9 (.slice (some ⟨wr.heap.size, 0, none⟩) 1 1)).run Tryd.prog (wr.alloc (.cells #[.int .u8 (48 + (r : Int))] 5)) = .ok (.string ⟨#[db r]⟩) (wr.alloc (.cells #[.int .u8 (48 + (r : Int))] 5)) :=
              Go.Lib.run_convert_whole _ 48 5 9 (by kernel_rfl) (by kernel_rfl) (by kernel_rfl) wr.heap.size 0 ⟨#[db r]⟩ (fun i hi => by obtain rfl : i = 0 := (by have h5 : i < 1 := hi; omega); exact (show (wr.alloc (.cells #[.int .u8 (48 + (r : Int))] 5)).cell? ⟨wr.heap.size, 0 + 0, none⟩ = some (.int .u8 (48 + (r : Int))) by simp).trans (show some (Value.int .u8 (48 + (r : Int))) = some (Value.int .u8 (((db r).toNat : Nat) : Int)) by rw [db_toNat hr]; rfl)) 1
            have htl2 : (1 : Int) + t.length ≤ 9223372036854775807 := by omega
            have hslz := Lib.hid ((hI.out.1.alloc_ (.cells #[.int .u8 (48 + (r : Int))] 5)).sl hI.out.2.2.1 (by rw [hI.out.2.1]; exact hc3) hm3)
            rw [hI.out.2.1] at hslz
            go_wp2_with (go_at_call 29; refine (reftrim_any _ _ _ _ _ _ hslz.out.1 hslz.out.2.1 hslz.out.2.2).mono ?_; rintro e w' ⟨rfl, rfl⟩)
            obtain ⟨i1, i2, i3, _, i5⟩ := hI.out
            rw [List.drop_zero, List.drop_zero, nval_digs] at i5
            have hle : (trimL o).length ≤ n3 := by rw [← i2]; exact trimL_length o
            have hpb := (i1.alloc_ (.cells #[.int .u8 (48 + (r : Int))] 5)).trim i3
            have hd10 : p / 10 = nval o := by omega
            have hm10 : p % 10 = r := by omega
            refine ⟨⟨db r :: t, g, c3, nval o, (trimL o).length, rfl, rfl, sr.via ((Below.refl _ _).alloc (Nat.le_refl _) _), hg, by omega, hm3, Lib.hid ⟨hpb, by rw [trimL_digs i3], by have := hIo.out.2.2.1; omega, ?_⟩⟩, ?_⟩
            · rw [hIo.out.2.2.2, dd_pos hp0, hd10, hm10, List.append_assoc]
              rfl
            · rw [trimL_digs i3, slv_eq (hpb.sl (digs_canon _).1 (by rw [← trimL_digs i3]; omega) hm3), hmeas.out, nval_digs]
              omega
          | succ j =>
            obtain rfl : z = (j : Int) := by omega
            clear hz
            have hcg := hI.out.1.cell (k := j) (by rw [hI.out.2.1]; omega)
            have hfg := hI.out.1.frozen j
            have hd1 := dg_lt hI.out.2.2.1 j
            have hlt := hI.out.1.lt
            obtain ⟨x, hx⟩ : ∃ x, dg o j = x := ⟨_, rfl⟩
            rw [hx] at hcg hd1
            obtain ⟨q, hq⟩ : ∃ q, (r * 4294967296 + x) / 10 = q := ⟨_, rfl⟩
            obtain ⟨r', hr'⟩ : ∃ r', (r * 4294967296 + x) % 10 = r' := ⟨_, rfl⟩
            have hql : q < 4294967296 := by omega
            have hrl : r' < 10 := by omega
            have eq1 : ((r : Int) * 4294967296 + x) / 10 = (q : Int) := by omega
            have er1 : ((r : Int) * 4294967296 + x) % 10 = (r' : Int) := by omega
            have hwo := Lib.hid hI.out
            go_wp2_with fail
            obtain ⟨i1, i2, i3, i4, i5⟩ := hwo.out
            refine ⟨⟨j, r', _, o.set j q, by omega, hrl, by rw [er1], rfl, rfl, Below.setCell sr (p := ⟨g, j, none⟩) hg _, Lib.hid ⟨i1.set (by omega), by simpa using i2, dig_set i3 hql, ?_, ?_⟩⟩, ?_⟩
            · rw [List.take_set_of_le (Nat.le_refl _)]
              have := congrArg (List.take j) i4
              rwa [List.take_take, List.take_take, Nat.min_eq_left (Nat.le_succ j)] at this
            · rw [nval_drop, nval_set_drop _ _ _ (by omega), ← dg_take_eq i4, hx, i5]
              have h10 : r * 4294967296 + x = q * 10 + r' := by omega
              rw [Nat.add_mul, Nat.mul_add, Nat.mul_assoc 4294967296]
              omega
            · simp only [intOf]
              omega
      · have hp0 : p = 0 := (none_digs hsl.out).1 (by omega)
        have htv : Hid (t = dd v) := by
          have := hI.out.2.2.2
          rw [hp0, dd_zero, List.nil_append] at this
          exact Lib.hid this.symm
        obtain ⟨a0, a1⟩ := sr.facts
        have hit : Hid (∀ b : Bool, Lib.itoa (sgn b v) = if b then 45 :: t else t) := by
          intro b
          cases b
          · rw [show sgn false v = (v : Int) from rfl, Lib.itoa, if_neg (by omega), Int.toNat_natCast, dd_dec v hv0, htv.out]; rfl
          · rw [show sgn true v = -(v : Int) from rfl, Lib.itoa, if_pos (by omega), Int.natAbs_neg, Int.natAbs_natCast, dd_dec v hv0, htv.out]; rfl
        clear hv0 htv hp0 hI hsl
        cases neg
        · go_wp2_with fail
          go_ret
          exact ⟨by rw [hit.out]; rfl, sr.below⟩
        · go_wp2_with fail
          go_ret
          exact ⟨by rw [hit.out]; rfl, sr.below⟩

theorem reftext_any (neg : Bool) {A : Option Addr} {n c B : Nat} {l : List Nat} {w : World} (h : Sl w B A n c l) (hB : B ≤ w.heap.size) :
    Calls Tryd.prog 11 #[.agg #[.bool neg, .slice A n c]] w fun e w' => e = .returned (.string ⟨(textS neg l).toArray⟩) ∧ Below w.heap.size w w' := by
  cases h1 : rightB neg l with
  | false => rw [show textS neg l = [] by unfold textS; rw [h1]; rfl]; exact reftext_no neg h hB h1
  | true => rw [show textS neg l = Lib.itoa (sgn neg (nval l)) by unfold textS; rw [h1]; rfl]; exact reftext_yes neg h hB h1
end Go.Proofs.YthnickjbknpmhaaDoor

namespace Go.Proofs.YthnickjbknpmhaaDoor
open Go.RowKit Go.Shelf

/-- A slice of digits is held. -/
def HoldsS (u : Value) (W : World) (l : List Nat) : Prop := ∃ A n c, u = .slice A n c ∧ Sl W W.heap.size A n c l
theorem HoldsS.via {u : Value} {W W1 : World} {l : List Nat} (h : HoldsS u W l) (hb : Below W.heap.size W W1) : HoldsS u W1 l := by
  obtain ⟨A, n, c, e, hs⟩ := h
  exact ⟨A, n, c, e, hs.via hb⟩
theorem HoldsS.built (W : World) (d : Nat) (hd : d < 4294967296) : HoldsS (.slice (some ⟨W.heap.size, 0, none⟩) 1 1) (W.alloc (.cells #[.int .u32 (d : Nat)] 50)) [d] := by
  have d1 : DBk (W.alloc (.cells #[.int .u32 (d : Nat)] 50)) W.heap.size 50 [d] := heap_alloc_at W _ _ rfl
  exact ⟨_, _, _, rfl, d1.sl (by intro x hx; simp at hx; omega) (by simp) (by simp)⟩

def rp10Fact (A : Option Addr) (n c p : Nat) (s : List UInt8) (k d : Nat) (j : Nat) (u : Value) (W : World) : Prop := match j with
  | 0 => u = .slice A n c
  | 1 => HoldsS u W [10]
  | 2 => HoldsS u W (digs (p * 10))
  | 3 => u = .string ⟨s.toArray⟩
  | 4 => u = .int .i64 (k : Int)
  | 5 => u = .int .u8 (48 + (d : Int))
  | 6 => u = .int .u8 (d : Int)
  | 7 => u = .int .u32 (d : Int)
  | 8 => HoldsS u W [d]
  | 9 => HoldsS u W (digs (p * 10 + d))
  | 10 => HoldsS u W (digs (p * 10 + d))
  | _ => True
def rp10Slot (j : Nat) : Nat := match j with
  | 0 => 35
  | 1 => 36
  | 2 => 37
  | 3 => 38
  | 4 => 39
  | 5 => 40
  | 6 => 41
  | 7 => 42
  | 8 => 43
  | 9 => 44
  | 10 => 5
  | _ => 0
theorem rp10_via {A : Option Addr} {n c p : Nat} {s : List UInt8} {k d : Nat} {j : Nat} {u : Value} {W W1 : World} (h : rp10Fact A n c p s k d j u W) (_hb : Below W.heap.size W W1) : rp10Fact A n c p s k d j u W1 := by
  unfold rp10Fact at h ⊢
  split <;> first | exact h | exact HoldsN.via h _hb | exact HoldsS.via h _hb | trivial | fail "no"
theorem rp10_inj : ∀ x, x < 11 → ∀ y, y < 11 → x ≠ y → rp10Slot x ≠ rp10Slot y := by decide
theorem rp10_upd {A : Option Addr} {n c p : Nat} {s : List UInt8} {k d : Nat} {f : Nat → Value} {L : Array Bool} {i : Nat} {v : Value} {W W1 : World} (hi : i < 11) (hF : ∀ j, j < 11 → L.getD j false = true → rp10Fact A n c p s k d j (f (rp10Slot j)) W) (hb : Below W.heap.size W W1) (hv : rp10Fact A n c p s k d i v W1) :
    ∀ j, j < 11 → (L.setIfInBounds i true).getD j false = true → rp10Fact A n c p s k d j (upd f (rp10Slot i) v (rp10Slot j)) W1 := by
  intro j hj h
  by_cases hji : j = i
  · subst hji; rw [upd_same]; exact hv
  · rw [upd_other (rp10_inj j hj i hi hji)]
    rcases getD_set h with h | h
    · exact absurd h hji
    · exact rp10_via (hF j hj h) hb
def rp10Inv (MM : World → Prop) (t : Array Value) (df : List Deferred) (A : Option Addr) (n c p : Nat) (s : List UInt8) (k d : Nat) (L : Array Bool) (a : Act) (W : World) : Prop :=
  ∃ f, a = ⟨patch t [35, 36, 37, 38, 39, 40, 41, 42, 43, 44, 5] f, df⟩ ∧ MM W ∧ (∀ j, j < 11 → L.getD j false = true → rp10Fact A n c p s k d j (f (rp10Slot j)) W) ∧ (L.getD 10 false = false → f 5 = t.getD 5 undef)
set_option maxRecDepth 100000 in
set_option maxHeartbeats 4000000 in
theorem rp10_region {ops : Array Oper} {Q : Exit → Act → World → Prop} {id : Nat} (MM : World → Prop) (t : Array Value) (df : List Deferred) (W : World) (A : Option Addr) (n c p : Nat) (s : List UInt8) (k d : Nat)
    (hsz : ops.size = 11) (hback : backB ops = true) (hts : 44 < t.size)
    (hM0 : MM W.drew) (hMV : ∀ W W1, MM W → Below W.heap.size W W1 → MM W1)
    (hdd : d < 10)
    (h5 : t.getD 5 undef = .slice A n c)
    (h0 : t.getD 0 undef = .string ⟨s.toArray⟩)
    (h6 : t.getD 6 undef = .int .i64 (k : Int))
    (hk : (k : Int) < s.length)
    (hsk : ∀ h : k < s.length, (s[k].toNat : Int) = 48 + (d : Int))
    (hTi : ∀ (W : World) (A2 : Option Addr) (n2 c2 : Nat), MM W → Sl W W.heap.size A2 n2 c2 [10] → Calls Tryd.prog 39 #[.slice A n c, .slice A2 n2 c2] W (RetD (p * 10) W))
    (hPl : ∀ (W : World) (A1 A2 : Option Addr) (n1 c1 n2 c2 : Nat), Sl W W.heap.size A1 n1 c1 (digs (p * 10)) → Sl W W.heap.size A2 n2 c2 [d] → Calls Tryd.prog 38 #[.slice A1 n1 c1, .slice A2 n2 c2] W (RetD (p * 10 + d) W))
    (o0 : opIsG ops 0 (some 35) (.move (.tmp 5)) none)
    (o1 : opIsG ops 1 (some 36) (.buildSlice 23 1 #[(0, .const (.int .u32 10))]) none)
    (o2 : opIsG ops 2 (some 37) (.call { callee := .value (.func 39), args := #[.tmp 35, .tmp 36], argTypes := #[23, 23] }) none)
    (o3 : opIsG ops 3 (some 38) (.move (.tmp 0)) none)
    (o4 : opIsG ops 4 (some 39) (.move (.tmp 6)) none)
    (o5 : opIsG ops 5 (some 40) (.index 9 (.tmp 38) (.tmp 39)) none)
    (o6 : opIsG ops 6 (some 41) (.binOp .sub 5 (.tmp 40) (.const (.int .u8 48)) 5) none)
    (o7 : opIsG ops 7 (some 42) (.convert 5 50 (.tmp 41)) none)
    (o8 : opIsG ops 8 (some 43) (.buildSlice 23 1 #[(0, .tmp 42)]) none)
    (o9 : opIsG ops 9 (some 44) (.call { callee := .value (.func 38), args := #[.tmp 37, .tmp 43], argTypes := #[23, 23] }) none)
    (o10 : opIsG ops 10 (some 5) (.assign (.tmp 44)) none)
    (p2_0 : depB ops 2 0 = true)
    (p2_1 : depB ops 2 1 = true)
    (p5_3 : depB ops 5 3 = true)
    (p5_4 : depB ops 5 4 = true)
    (p6_5 : depB ops 6 5 = true)
    (p7_6 : depB ops 7 6 = true)
    (p8_7 : depB ops 8 7 = true)
    (p9_2 : depB ops 9 2 = true)
    (p9_8 : depB ops 9 8 = true)
    (p10_9 : depB ops 10 9 = true)
    (p10_0 : depB ops 10 0 = true)
    (hQ : ∀ f W, MM W → (HoldsS (f 5) W (digs (p * 10 + d))) → Q .normal ⟨patch t [35, 36, 37, 38, 39, 40, 41, 42, 43, 44, 5] f, df⟩ W) : (Code.region id ops true).wp Tryd.prog Q ⟨t, df⟩ W := by
  refine wp_region_inv (by kernel_rfl) hback (rp10Inv MM t df A n c p s k d) ?_ ?_ ?_
  · refine ⟨_, congrArg (fun x => (⟨x, df⟩ : Act)) (patch_start t [35, 36, 37, 38, 39, 40, 41, 42, 43, 44, 5]).symm, hM0, fun j _ h => ?_, fun _ => rfl⟩
    simp [Array.getD] at h
  · rintro L a W i o ho hzz hc hl hd ⟨f, rfl, hA, hF, hK10⟩
    have hi : i < 11 := by have := (Array.getElem?_eq_some_iff.1 ho).1; omega
    obtain ⟨dst, op, ty, pos, after, guard⟩ := o
    match i, hi with
    | 0, _ =>
      have e := o0
      unfold opIsG at e
      rw [ho] at e
      simp only [Option.map_some, Option.some.injEq, Prod.mk.injEq] at e
      obtain ⟨rfl, rfl, rfl⟩ := e
      refine wpOp_step ho (fun K hK => ?_)
      rw [if_pos (wanted_none rfl)]
      have hj0 : L.getD 10 false = false := (by
        cases hx : L.getD 10 false with
        | false => rfl
        | true =>
          have h9 := hc 10 0 p10_0 (by rw [getD_lt (c := false) (by omega)]; exact hx) (by omega)
          rw [getD_lt (c := true) (by omega), hl] at h9; cases h9)
      have x9 : (patch t [35, 36, 37, 38, 39, 40, 41, 42, 43, 44, 5] f).getD 5 undef = .slice A n c := (patch_get (by omega) (by decide)).trans ((hK10 hj0).trans h5)
      go_simp
      exact hK _ _ ⟨upd f 35 (.slice A n c), by rw [patch_set (by decide)], hA, rp10_upd (i := 0) (by omega) hF (Below.refl _ _) rfl, fun h => (by rw [getD_set_ne (by omega)] at h; rw [upd_other (by decide)]; exact hK10 h)⟩
    | 1, _ =>
      have e := o1
      unfold opIsG at e
      rw [ho] at e
      simp only [Option.map_some, Option.some.injEq, Prod.mk.injEq] at e
      obtain ⟨rfl, rfl, rfl⟩ := e
      refine wpOp_step ho (fun K hK => ?_)
      rw [if_pos (wanted_none rfl)]
      go_simp
      have hb : Below W.heap.size W (W.alloc (.cells #[.int .u32 ((10 : Nat) : Int)] 50)) := (Below.refl _ _).alloc (Nat.le_refl _) _
      exact hK _ _ ⟨upd f 36 (.slice (some ⟨W.heap.size, 0, none⟩) 1 1), by rw [patch_set (by decide)], (hMV _ _ hA hb), rp10_upd (i := 1) (by omega) hF hb (HoldsS.built W 10 (by omega)), fun h => (by rw [getD_set_ne (by omega)] at h; rw [upd_other (by decide)]; exact hK10 h)⟩
    | 2, _ =>
      have e := o2
      unfold opIsG at e
      rw [ho] at e
      simp only [Option.map_some, Option.some.injEq, Prod.mk.injEq] at e
      obtain ⟨rfl, rfl, rfl⟩ := e
      refine wpOp_step ho (fun K hK => ?_)
      rw [if_pos (wanted_none rfl)]
      have x0 : (patch t [35, 36, 37, 38, 39, 40, 41, 42, 43, 44, 5] f).getD 35 undef = .slice A n c := (patch_get (by omega) (by decide)).trans (hF 0 (by omega) (hd 0 p2_0))
      have y1 : HoldsS (f 36) W [10] := hF 1 (by omega) (hd 1 p2_1)
      obtain ⟨A2, n2, c2, e2, hs2⟩ := y1
      have x8 : (patch t [35, 36, 37, 38, 39, 40, 41, 42, 43, 44, 5] f).getD 36 undef = .slice A2 n2 c2 := (patch_get (by omega) (by decide)).trans e2
      go_simp
      refine (hTi W A2 n2 c2 hA hs2).mono ?_
      rintro e w1 ⟨A3, n3, c3, rfl, hs3, hb⟩
      exact hK _ _ ⟨upd f 37 (.slice A3 n3 c3), by rw [patch_set (by decide)], (hMV _ _ hA hb), rp10_upd (i := 2) (by omega) hF hb ⟨A3, n3, c3, rfl, hs3⟩, fun h => (by rw [getD_set_ne (by omega)] at h; rw [upd_other (by decide)]; exact hK10 h)⟩
    | 3, _ =>
      have e := o3
      unfold opIsG at e
      rw [ho] at e
      simp only [Option.map_some, Option.some.injEq, Prod.mk.injEq] at e
      obtain ⟨rfl, rfl, rfl⟩ := e
      refine wpOp_step ho (fun K hK => ?_)
      rw [if_pos (wanted_none rfl)]
      have x9 : (patch t [35, 36, 37, 38, 39, 40, 41, 42, 43, 44, 5] f).getD 0 undef = .string ⟨s.toArray⟩ := (patch_out (by decide)).trans h0
      go_simp
      exact hK _ _ ⟨upd f 38 (.string ⟨s.toArray⟩), by rw [patch_set (by decide)], hA, rp10_upd (i := 3) (by omega) hF (Below.refl _ _) rfl, fun h => (by rw [getD_set_ne (by omega)] at h; rw [upd_other (by decide)]; exact hK10 h)⟩
    | 4, _ =>
      have e := o4
      unfold opIsG at e
      rw [ho] at e
      simp only [Option.map_some, Option.some.injEq, Prod.mk.injEq] at e
      obtain ⟨rfl, rfl, rfl⟩ := e
      refine wpOp_step ho (fun K hK => ?_)
      rw [if_pos (wanted_none rfl)]
      have x9 : (patch t [35, 36, 37, 38, 39, 40, 41, 42, 43, 44, 5] f).getD 6 undef = .int .i64 (k : Int) := (patch_out (by decide)).trans h6
      go_simp
      exact hK _ _ ⟨upd f 39 (.int .i64 (k : Int)), by rw [patch_set (by decide)], hA, rp10_upd (i := 4) (by omega) hF (Below.refl _ _) rfl, fun h => (by rw [getD_set_ne (by omega)] at h; rw [upd_other (by decide)]; exact hK10 h)⟩
    | 5, _ =>
      have e := o5
      unfold opIsG at e
      rw [ho] at e
      simp only [Option.map_some, Option.some.injEq, Prod.mk.injEq] at e
      obtain ⟨rfl, rfl, rfl⟩ := e
      refine wpOp_step ho (fun K hK => ?_)
      rw [if_pos (wanted_none rfl)]
      have x3 : (patch t [35, 36, 37, 38, 39, 40, 41, 42, 43, 44, 5] f).getD 38 undef = .string ⟨s.toArray⟩ := (patch_get (by omega) (by decide)).trans (hF 3 (by omega) (hd 3 p5_3))
      have x4 : (patch t [35, 36, 37, 38, 39, 40, 41, 42, 43, 44, 5] f).getD 39 undef = .int .i64 (k : Int) := (patch_get (by omega) (by decide)).trans (hF 4 (by omega) (hd 4 p5_4))
      have hkk : k < (⟨s.toArray⟩ : ByteArray).size := (by show k < s.length; omega)
      have e4 : (((⟨s.toArray⟩ : ByteArray)[k]'hkk).toNat : Int) = 48 + (d : Int) := hsk (by omega)
      go_simp
      exact hK _ _ ⟨upd f 40 (.int .u8 (48 + (d : Int))), by rw [patch_set (by decide)], hA, rp10_upd (i := 5) (by omega) hF (Below.refl _ _) rfl, fun h => (by rw [getD_set_ne (by omega)] at h; rw [upd_other (by decide)]; exact hK10 h)⟩
    | 6, _ =>
      have e := o6
      unfold opIsG at e
      rw [ho] at e
      simp only [Option.map_some, Option.some.injEq, Prod.mk.injEq] at e
      obtain ⟨rfl, rfl, rfl⟩ := e
      refine wpOp_step ho (fun K hK => ?_)
      rw [if_pos (wanted_none rfl)]
      have x5 : (patch t [35, 36, 37, 38, 39, 40, 41, 42, 43, 44, 5] f).getD 40 undef = .int .u8 (48 + (d : Int)) := (patch_get (by omega) (by decide)).trans (hF 5 (by omega) (hd 5 p6_5))
      go_simp
      rw [show IntKind.u8.wrap (48 + (d : Int) - 48) = (d : Int) by rw [IntKind.wrap_u8]; omega]
      exact hK _ _ ⟨upd f 41 (.int .u8 (d : Int)), by rw [patch_set (by decide)], hA, rp10_upd (i := 6) (by omega) hF (Below.refl _ _) rfl, fun h => (by rw [getD_set_ne (by omega)] at h; rw [upd_other (by decide)]; exact hK10 h)⟩
    | 7, _ =>
      have e := o7
      unfold opIsG at e
      rw [ho] at e
      simp only [Option.map_some, Option.some.injEq, Prod.mk.injEq] at e
      obtain ⟨rfl, rfl, rfl⟩ := e
      refine wpOp_step ho (fun K hK => ?_)
      rw [if_pos (wanted_none rfl)]
      have x6 : (patch t [35, 36, 37, 38, 39, 40, 41, 42, 43, 44, 5] f).getD 41 undef = .int .u8 (d : Int) := (patch_get (by omega) (by decide)).trans (hF 6 (by omega) (hd 6 p7_6))
      go_simp
      rw [show IntKind.u32.wrap (d : Int) = (d : Int) by rw [IntKind.wrap_u32]; omega]
      exact hK _ _ ⟨upd f 42 (.int .u32 (d : Int)), by rw [patch_set (by decide)], hA, rp10_upd (i := 7) (by omega) hF (Below.refl _ _) rfl, fun h => (by rw [getD_set_ne (by omega)] at h; rw [upd_other (by decide)]; exact hK10 h)⟩
    | 8, _ =>
      have e := o8
      unfold opIsG at e
      rw [ho] at e
      simp only [Option.map_some, Option.some.injEq, Prod.mk.injEq] at e
      obtain ⟨rfl, rfl, rfl⟩ := e
      refine wpOp_step ho (fun K hK => ?_)
      rw [if_pos (wanted_none rfl)]
      have x7 : (patch t [35, 36, 37, 38, 39, 40, 41, 42, 43, 44, 5] f).getD 42 undef = .int .u32 (d : Int) := (patch_get (by omega) (by decide)).trans (hF 7 (by omega) (hd 7 p8_7))
      rw [Array.getD_eq_getD_getElem?] at x7
      go_simp
      have hb : Below W.heap.size W (W.alloc (.cells #[.int .u32 ((d : Nat) : Int)] 50)) := (Below.refl _ _).alloc (Nat.le_refl _) _
      exact hK _ _ ⟨upd f 43 (.slice (some ⟨W.heap.size, 0, none⟩) 1 1), by rw [patch_set (by decide)], (hMV _ _ hA hb), rp10_upd (i := 8) (by omega) hF hb (HoldsS.built W d (by omega)), fun h => (by rw [getD_set_ne (by omega)] at h; rw [upd_other (by decide)]; exact hK10 h)⟩
    | 9, _ =>
      have e := o9
      unfold opIsG at e
      rw [ho] at e
      simp only [Option.map_some, Option.some.injEq, Prod.mk.injEq] at e
      obtain ⟨rfl, rfl, rfl⟩ := e
      refine wpOp_step ho (fun K hK => ?_)
      rw [if_pos (wanted_none rfl)]
      have y2 : HoldsS (f 37) W (digs (p * 10)) := hF 2 (by omega) (hd 2 p9_2)
      have y8 : HoldsS (f 43) W [d] := hF 8 (by omega) (hd 8 p9_8)
      obtain ⟨A1, n1, c1, e1, hs1⟩ := y2
      have x7 : (patch t [35, 36, 37, 38, 39, 40, 41, 42, 43, 44, 5] f).getD 37 undef = .slice A1 n1 c1 := (patch_get (by omega) (by decide)).trans e1
      obtain ⟨A2, n2, c2, e2, hs2⟩ := y8
      have x8 : (patch t [35, 36, 37, 38, 39, 40, 41, 42, 43, 44, 5] f).getD 43 undef = .slice A2 n2 c2 := (patch_get (by omega) (by decide)).trans e2
      go_simp
      refine (hPl W A1 A2 n1 c1 n2 c2 hs1 hs2).mono ?_
      rintro e w1 ⟨A3, n3, c3, rfl, hs3, hb⟩
      exact hK _ _ ⟨upd f 44 (.slice A3 n3 c3), by rw [patch_set (by decide)], (hMV _ _ hA hb), rp10_upd (i := 9) (by omega) hF hb ⟨A3, n3, c3, rfl, hs3⟩, fun h => (by rw [getD_set_ne (by omega)] at h; rw [upd_other (by decide)]; exact hK10 h)⟩
    | 10, _ =>
      have e := o10
      unfold opIsG at e
      rw [ho] at e
      simp only [Option.map_some, Option.some.injEq, Prod.mk.injEq] at e
      obtain ⟨rfl, rfl, rfl⟩ := e
      refine wpOp_step ho (fun K hK => ?_)
      rw [if_pos (wanted_none rfl)]
      have y9 : HoldsS (f 44) W (digs (p * 10 + d)) := hF 9 (by omega) (hd 9 p10_9)
      obtain ⟨A3, n3, c3, e3, hs3⟩ := y9
      have x7 : (patch t [35, 36, 37, 38, 39, 40, 41, 42, 43, 44, 5] f).getD 44 undef = .slice A3 n3 c3 := (patch_get (by omega) (by decide)).trans e3
      go_simp
      exact hK _ _ ⟨upd f 5 (.slice A3 n3 c3), by rw [patch_set (by decide)], hA, rp10_upd (i := 10) (by omega) hF (Below.refl _ _) ⟨A3, n3, c3, rfl, hs3⟩, fun h => (by rw [getD_set_self (by omega)] at h; cases h)⟩
    | k + 11, h => exact absurd h (by omega)
  · rintro L a W hL ⟨f, rfl, hA, hF, _⟩
    exact hQ f W hA (hF 10 (by omega) (hL 10 (by omega)))
/-- Where the digits begin. -/
def cutF (s : List UInt8) : Nat := if s.head? = some 45 then 1 else 0
theorem cutR_drop (s : List UInt8) : cutR s = s.drop (cutF s) := by
  unfold cutR cutF
  split
  · cases s <;> rfl
  · rfl
theorem cutF_le (s : List UInt8) : cutF s ≤ s.length := by
  unfold cutF
  split
  · rename_i h; cases s with
    | nil => cases h
    | cons a b => simp
  · omega
theorem cutF_eq {s : List UInt8} (h0 : 0 < s.length) : cutF s = if ((((⟨s.toArray⟩ : ByteArray)[0]'h0).toNat : Int) == 45) = true then 1 else 0 := by
  cases s with
  | nil => simp at h0
  | cons b r =>
    have e : ((⟨(b :: r).toArray⟩ : ByteArray)[0]'h0) = b := rfl
    rw [e]
    unfold cutF
    by_cases hb : b = 45
    · subst hb; rfl
    · rw [if_neg (by simpa using hb), if_neg]
      intro h
      have h1 : b.toNat = 45 := by
        have h2 : (b.toNat : Int) = 45 := by simpa using h
        omega
      exact hb (UInt8.toNat_inj.1 h1)
theorem cutF_nil {s : List UInt8} (h0 : ¬ 0 < s.length) : cutF s = 0 := by
  obtain rfl := List.eq_nil_of_length_eq_zero (show s.length = 0 by omega)
  rfl
theorem cutN_one {s : List UInt8} (h : cutF s = 1) : cutN s = true := by
  unfold cutF at h
  unfold cutN
  split at h
  · rename_i h2; simp [h2]
  · omega
theorem cutN_zero {s : List UInt8} (h : cutF s = 0) : cutN s = false := by
  unfold cutF at h
  unfold cutN
  split at h
  · omega
  · rename_i h2; simp [h2]
/-- What holds between two rounds of the reference's Parse. -/
def RpI (W : World) (s : List UInt8) (A : Option Addr) (n c u k : Nat) : Prop := Sl W W.heap.size A n c (digs u) ∧ u < big ∧ u = dval ((cutR s).take (k - cutF s)) ∧ AllD ((cutR s).take (k - cutF s))
theorem digs_len_le {v k : Nat} (h : v < 4294967296 ^ k) : (digs v).length ≤ k := by
  rcases Nat.lt_or_ge k (digs v).length with h1 | h1
  · have h2 := canon_ge (digs_canon v) (by intro e; rw [e] at h1; simp at h1)
    have h3 : 4294967296 ^ k ≤ 4294967296 ^ ((digs v).length - 1) := Nat.pow_le_pow_right (by decide) (by omega)
    rw [nval_digs] at h2
    exact absurd (Nat.lt_of_lt_of_le h (Nat.le_trans h3 h2)) (Nat.lt_irrefl _)
  · exact h1
theorem digs_mul10 {v : Nat} (h : v < big) : (digs (v * 10)).length ≤ 1000 := by
  refine Nat.le_trans (digs_len_le (k := 65) ?_) (by decide)
  unfold big at h
  rw [Nat.pow_succ]
  omega
theorem rp_val {s : List UInt8} {k u : Nat} (hk : k = s.length) (hu : u = dval ((cutR s).take (k - cutF s))) : valS s = sgn (cutN s) u := by
  subst hk
  rw [List.take_of_length_le (by rw [cutR_drop, List.length_drop]; exact Nat.le_refl _)] at hu
  unfold valS
  rw [hu]
theorem rp_get {s : List UInt8} {k : Nat} (hk : k < s.length) (hf : cutF s ≤ k) : (cutR s)[k - cutF s]? = some s[k] := by
  rw [cutR_drop, List.getElem?_drop, show cutF s + (k - cutF s) = k by omega]
  exact List.getElem?_eq_getElem hk
theorem rp_take {s : List UInt8} {k : Nat} (hk : k < s.length) (hf : cutF s ≤ k) : (cutR s).take (k + 1 - cutF s) = (cutR s).take (k - cutF s) ++ [s[k]] := by
  rw [show k + 1 - cutF s = (k - cutF s) + 1 by omega, List.take_add_one, rp_get hk hf]
  rfl
theorem rp_bad {s : List UInt8} {k : Nat} (hk : k < s.length) (hf : cutF s ≤ k) (hb : ¬ (48 ≤ s[k].toNat ∧ s[k].toNat ≤ 57)) : parseS s = none :=
  parseS_bad fun h => hb (h _ (List.mem_of_getElem? (rp_get hk hf)))
theorem rp_great {s : List UInt8} {j u : Nat} (hu : u = dval ((cutR s).take j)) (h : ¬ u < big) : parseS s = none := by
  refine parseS_great fun h2 => h ?_
  rw [← List.take_append_drop j (cutR s), dval_append, dvalA_eq, ← hu] at h2
  have h3 : u ≤ u * 10 ^ ((cutR s).drop j).length := Nat.le_mul_of_pos_right _ (Nat.pos_of_ne_zero (by simp))
  omega

attribute [local go_sem] bapp

set_option maxRecDepth 100000 in
set_option maxHeartbeats 4000000 in
theorem refparse_any (s : List UInt8) (w : World) (hlen : s.length ≤ 1000) :
    Calls Tryd.prog 14 #[.string ⟨s.toArray⟩] w (RetN (parseS s) w) := by
  have s0 := S1.start (w := w) (neg := false) (A := none) (n := 0) (c := 0)
  have hfle := cutF_le s
  by_cases h0 : (0 : Int) < s.length
  · have h0' : 0 < s.length := by omega
    cases h1 : ((((⟨s.toArray⟩ : ByteArray)[0]'h0').toNat : Int) == 45) with
    | true =>
      have hf : cutF s = 1 := by rw [cutF_eq h0', h1]; rfl
      have hcn := cutN_one hf
      go_enter Tryd.func14, Tryd.ntmps14
      go_wp2_with fail
      go_loopw [5, 6] (fun x y W => ∃ k A n c u, cutF s ≤ k ∧ k ≤ s.length ∧ x = .slice A n c ∧ y = .int .i64 (k : Nat) ∧ S1 w false none 0 0 W ∧ Hid (RpI W s A n c u k)) (fun _ y _ => s.length - (intOf y).toNat)
      case atStart => exact ⟨1, none, 0, 0, 0, by omega, by omega, rfl, rfl, s0, Lib.hid ⟨by rw [digs_zero]; exact Sl.none_, by unfold big; exact Nat.pos_of_ne_zero (by simp), by rw [hf]; rfl, by rw [hf]; intro b hb; simp at hb⟩⟩
      case round =>
        obtain ⟨k, A, n, c, u, hk1, hk2, rfl, rfl, sr, hI⟩ := hrel
        clear s0
        have hn64 := few_digs hI.out.1 hI.out.2.1
        by_cases hlt : (k : Int) < s.length
        · have hkl : k < s.length := by omega
          have hkk : k < (⟨s.toArray⟩ : ByteArray).size := hkl
          by_cases hb : 48 ≤ s[k].toNat ∧ s[k].toNat ≤ 57
          · obtain ⟨d, hd⟩ : ∃ d, s[k].toNat = 48 + d := ⟨s[k].toNat - 48, by omega⟩
            have hdd : d < 10 := by omega
            have e4 : (((⟨s.toArray⟩ : ByteArray)[k]'hkk).toNat : Int) = 48 + (d : Int) := by rw [show ((⟨s.toArray⟩ : ByteArray)[k]'hkk) = s[k] from rfl, hd]; omega
            go_upto_region 10 with fail
            have TI := Lib.hid (fun (W : World) (A2 : Option Addr) (n2 c2 : Nat) (hm : S1 w false none 0 0 W ∧ Sl W W.heap.size A n c (digs u)) (hs : Sl W W.heap.size A2 n2 c2 [10]) => (by
              have := reftimes_any A A2 n c n2 c2 W.heap.size (digs u) [10] W hm.2 hs (Nat.le_refl _) (by omega) (by have := hs.len; simp at this; omega)
              rwa [nval_digs, show nval [10] = 10 from rfl] at this : Calls Tryd.prog 39 #[.slice A n c, .slice A2 n2 c2] W (RetD (u * 10) W)))
            have hub := Lib.hid hI.out.2.1
            have PL := Lib.hid (fun (W : World) (A1 A2 : Option Addr) (n1 c1 n2 c2 : Nat) (hs1 : Sl W W.heap.size A1 n1 c1 (digs (u * 10))) (hs : Sl W W.heap.size A2 n2 c2 [d]) => (by
              have h4 := digs_mul10 hub.out
              rw [hs1.len] at h4
              have := refplus_any A1 A2 n1 c1 n2 c2 W.heap.size (digs (u * 10)) [d] W hs1 hs (Nat.le_refl _) h4 (by have := hs.len; simp at this; omega)
              rwa [nval_digs, show nval [d] = d by simp [nval]] at this : Calls Tryd.prog 38 #[.slice A1 n1 c1, .slice A2 n2 c2] W (RetD (u * 10 + d) W)))
            refine rp10_region (fun W => S1 w false none 0 0 W ∧ Sl W W.heap.size A n c (digs u)) _ _ _ A n c u s k d rfl (by kernel_rfl) (by simp) ⟨sr.drew, hI.out.1.via (Below.refl _ _).drew⟩ (fun W W1 h hb => ⟨h.1.via hb, h.2.via hb⟩)
              hdd rfl rfl rfl hlt (fun h => by rw [hd]; omega) TI.out PL.out
              rfl rfl rfl rfl rfl rfl rfl rfl rfl rfl rfl
              (by kernel_rfl) (by kernel_rfl) (by kernel_rfl) (by kernel_rfl) (by kernel_rfl) (by kernel_rfl) (by kernel_rfl) (by kernel_rfl) (by kernel_rfl) (by kernel_rfl) (by kernel_rfl) ?_
            rintro f W9 ⟨sr2, _⟩ ⟨A5, n5, c5, e5, hs5⟩
            simp only [patch_cons, patch_nil, e5]
            clear e5 TI PL
            simp only [List.setIfInBounds_toArray, List.set_cons_zero, List.set_cons_succ]
            obtain ⟨r0, r1⟩ := sr2.facts
            obtain ⟨rf, rz⟩ := sr2.frz
            have hud : u * 10 + d = dval ((cutR s).take (k + 1 - cutF s)) := by
              rw [rp_take hkl hk1, dval_snoc, ← hI.out.2.2.1, hd]; omega
            by_cases h64 : (64 : Int) < n5
            · have hp : Hid (parseS s = none) := Lib.hid (rp_great hud (fun h => by have := few_digs hs5 h; omega))
              clear hud hI hub
              go_wp2_with fail
              rw [hp.out]
              obtain ⟨q0, q1⟩ := two_set (.bool false) (.slice none 0 0) r0 r1
              refine bodyPost_ret (v := .tuple #[.agg #[.bool false, .slice none 0 0], .bool false]) ?_ rfl ⟨_, _, _, rfl, by rw [show digs (vO none).natAbs = [] from digs_zero]; exact Sl.none_, ?_⟩
              · simp [results, Tryd.f14, go_sem, q0, q1]
              · exact (sr2.below.setCell (by simp) _).setCell (by simp) _
            · have hI2 : Hid (RpI W9 s A5 n5 c5 (u * 10 + d) (k + 1)) := Lib.hid ⟨hs5, (digs_fits _).1 (by rw [hs5.len]; omega), hud, by
                rw [rp_take hkl hk1, allD_append]
                exact ⟨hI.out.2.2.2, fun b hb2 => by rw [List.mem_singleton.1 hb2]; exact hb⟩⟩
              clear hud hI hub hs5
              go_wp2_with fail
              refine ⟨⟨k + 1, A5, n5, c5, u * 10 + d, by omega, by omega, rfl, rfl, sr2, hI2⟩, ?_⟩
              simp only [intOf]
              omega
          · have hp : Hid (parseS s = none) := Lib.hid (rp_bad hkl hk1 hb)
            obtain ⟨b, hd⟩ : ∃ b, s[k].toNat = b := ⟨_, rfl⟩
            have e4 : (((⟨s.toArray⟩ : ByteArray)[k]'hkk).toNat : Int) = (b : Int) := by rw [show ((⟨s.toArray⟩ : ByteArray)[k]'hkk) = s[k] from rfl, hd]
            rw [hd] at hb
            obtain ⟨r0, r1⟩ := sr.facts
            obtain ⟨rf, rz⟩ := sr.frz
            clear hI hd
            by_cases hb2 : (b : Int) < 48
            · clear hb
              go_wp2_with fail
              rw [hp.out]
              obtain ⟨q0, q1⟩ := two_set (.bool false) (.slice none 0 0) r0 r1
              refine bodyPost_ret (v := .tuple #[.agg #[.bool false, .slice none 0 0], .bool false]) ?_ rfl ⟨_, _, _, rfl, by rw [show digs (vO none).natAbs = [] from digs_zero]; exact Sl.none_, ?_⟩
              · simp [results, Tryd.f14, go_sem, q0, q1]
              · exact (sr.below.setCell (by simp) _).setCell (by simp) _
            · have hb3 : (57 : Int) < b := by omega
              clear hb
              go_wp2_with fail
              rw [hp.out]
              obtain ⟨q0, q1⟩ := two_set (.bool false) (.slice none 0 0) r0 r1
              refine bodyPost_ret (v := .tuple #[.agg #[.bool false, .slice none 0 0], .bool false]) ?_ rfl ⟨_, _, _, rfl, by rw [show digs (vO none).natAbs = [] from digs_zero]; exact Sl.none_, ?_⟩
              · simp [results, Tryd.f14, go_sem, q0, q1]
              · exact (sr.below.setCell (by simp) _).setCell (by simp) _
        · have hval := rp_val (s := s) (k := k) (by omega) hI.out.2.2.1
          rw [hcn] at hval
          obtain ⟨x, hx⟩ : ∃ x, sgn true u = x := ⟨_, rfl⟩
          have hxb : x.natAbs < big := by rw [← hx, sgn_abs]; exact hI.out.2.1
          have SG : Hid (Calls Tryd.prog 27 #[.bool true, .slice A n c] wr (RetN (some x) wr)) := by
            have := signed_any A n c wr.heap.size u true (digs u) wr hI.out.1 (Nat.le_refl _) (nval_digs u)
            rw [hx, show fitO x = some x by unfold fitO; rw [if_pos hxb]] at this
            exact Lib.hid this
          have hps : Hid (parseS s = if Lib.itoa x = s then some x else none) := Lib.hid (by
            unfold parseS
            rw [hval, hx]
            by_cases h : Lib.itoa x = s
            · rw [if_pos ⟨h, hxb⟩, if_pos h]
            · rw [if_neg (fun h2 => h h2.1), if_neg h])
          have hrd := Lib.hid (textS_digs hxb)
          have TX := Lib.hid (fun (W : World) (A : Option Addr) (n c : Nat) (hs : Sl W W.heap.size A n c (digs x.natAbs)) => reftext_any (decide (x < 0)) hs (Nat.le_refl _))
          rw [hrd.out] at TX
          clear hval hx hxb hI
          by_cases heq : Lib.itoa x = s
          · rw [heq] at TX
            go_wp2_with (first
              | (go_at_call 27; (with_reducible refine (SG.out).mono ?_); rintro e w2 hr; obtain ⟨A6, n6, c6, rfl, hs6, hb6⟩ := retN_some hr; have s6 := sr.via hb6; have s7 := s6.via ((Below.refl _ _).alloc (Nat.le_refl _) (.cells #[.bool (decide (x < 0)), .slice A6 n6 c6] 25)); obtain ⟨r0, r1⟩ := s7.facts; obtain ⟨rf, rz⟩ := s7.frz)
              | (go_at_call 11; (with_reducible refine (TX.out _ _ _ _ (hs6.alloc_ _)).mono ?_); rintro e w3 ⟨rfl, hb7⟩; have s8 := s7.via hb7; obtain ⟨g0, g1⟩ := bcell hb7; clear r0 r1 rf rz; obtain ⟨r0, r1⟩ := s8.facts; obtain ⟨rf, rz⟩ := s8.frz)
              | fail "no arm")
            rw [hps.out, if_pos heq]
            obtain ⟨q0, q1⟩ := two_set (.bool (decide (x < 0))) (.slice A6 n6 c6) r0 r1
            refine bodyPost_ret (v := .tuple #[.agg #[.bool (decide (x < 0)), .slice A6 n6 c6], .bool true]) ?_ rfl ⟨A6, n6, c6, rfl, ?_, ?_⟩
            · simp [results, Tryd.f14, go_sem, q0, q1]
            · exact (((hs6.alloc_ _).below hb7).more hb7.size).stored r0 r1 _ _
            · exact (s8.below.setCell (by simp) _).setCell (by simp) _
          · have hbq : (Lib.itoa x == s) = false := by simp [heq]
            go_wp2_with (first
              | (go_at_call 27; (with_reducible refine (SG.out).mono ?_); rintro e w2 hr; obtain ⟨A6, n6, c6, rfl, hs6, hb6⟩ := retN_some hr; have s6 := sr.via hb6; have s7 := s6.via ((Below.refl _ _).alloc (Nat.le_refl _) (.cells #[.bool (decide (x < 0)), .slice A6 n6 c6] 25)); obtain ⟨r0, r1⟩ := s7.facts; obtain ⟨rf, rz⟩ := s7.frz)
              | (go_at_call 11; (with_reducible refine (TX.out _ _ _ _ (hs6.alloc_ _)).mono ?_); rintro e w3 ⟨rfl, hb7⟩; have s8 := s7.via hb7; obtain ⟨g0, g1⟩ := bcell hb7; clear r0 r1 rf rz; obtain ⟨r0, r1⟩ := s8.facts; obtain ⟨rf, rz⟩ := s8.frz)
              | fail "no arm")
            rw [hps.out, if_neg heq]
            obtain ⟨q0, q1⟩ := two_set (.bool false) (.slice none 0 0) r0 r1
            refine bodyPost_ret (v := .tuple #[.agg #[.bool false, .slice none 0 0], .bool false]) ?_ rfl ⟨_, _, _, rfl, by rw [show digs (vO none).natAbs = [] from digs_zero]; exact Sl.none_, ?_⟩
            · simp [results, Tryd.f14, go_sem, q0, q1]
            · exact (s8.below.setCell (by simp) _).setCell (by simp) _
    | false =>
      have hf : cutF s = 0 := by rw [cutF_eq h0', h1]; rfl
      have hcn := cutN_zero hf
      go_enter Tryd.func14, Tryd.ntmps14
      go_wp2_with fail
      go_loopw [5, 6] (fun x y W => ∃ k A n c u, cutF s ≤ k ∧ k ≤ s.length ∧ x = .slice A n c ∧ y = .int .i64 (k : Nat) ∧ S1 w false none 0 0 W ∧ Hid (RpI W s A n c u k)) (fun _ y _ => s.length - (intOf y).toNat)
      case atStart => exact ⟨0, none, 0, 0, 0, by omega, by omega, rfl, rfl, s0, Lib.hid ⟨by rw [digs_zero]; exact Sl.none_, by unfold big; exact Nat.pos_of_ne_zero (by simp), by rw [hf]; rfl, by rw [hf]; intro b hb; simp at hb⟩⟩
      case round =>
        obtain ⟨k, A, n, c, u, hk1, hk2, rfl, rfl, sr, hI⟩ := hrel
        clear s0
        have hn64 := few_digs hI.out.1 hI.out.2.1
        by_cases hlt : (k : Int) < s.length
        · have hkl : k < s.length := by omega
          have hkk : k < (⟨s.toArray⟩ : ByteArray).size := hkl
          by_cases hb : 48 ≤ s[k].toNat ∧ s[k].toNat ≤ 57
          · obtain ⟨d, hd⟩ : ∃ d, s[k].toNat = 48 + d := ⟨s[k].toNat - 48, by omega⟩
            have hdd : d < 10 := by omega
            have e4 : (((⟨s.toArray⟩ : ByteArray)[k]'hkk).toNat : Int) = 48 + (d : Int) := by rw [show ((⟨s.toArray⟩ : ByteArray)[k]'hkk) = s[k] from rfl, hd]; omega
            go_upto_region 10 with fail
            have TI := Lib.hid (fun (W : World) (A2 : Option Addr) (n2 c2 : Nat) (hm : S1 w false none 0 0 W ∧ Sl W W.heap.size A n c (digs u)) (hs : Sl W W.heap.size A2 n2 c2 [10]) => (by
              have := reftimes_any A A2 n c n2 c2 W.heap.size (digs u) [10] W hm.2 hs (Nat.le_refl _) (by omega) (by have := hs.len; simp at this; omega)
              rwa [nval_digs, show nval [10] = 10 from rfl] at this : Calls Tryd.prog 39 #[.slice A n c, .slice A2 n2 c2] W (RetD (u * 10) W)))
            have hub := Lib.hid hI.out.2.1
            have PL := Lib.hid (fun (W : World) (A1 A2 : Option Addr) (n1 c1 n2 c2 : Nat) (hs1 : Sl W W.heap.size A1 n1 c1 (digs (u * 10))) (hs : Sl W W.heap.size A2 n2 c2 [d]) => (by
              have h4 := digs_mul10 hub.out
              rw [hs1.len] at h4
              have := refplus_any A1 A2 n1 c1 n2 c2 W.heap.size (digs (u * 10)) [d] W hs1 hs (Nat.le_refl _) h4 (by have := hs.len; simp at this; omega)
              rwa [nval_digs, show nval [d] = d by simp [nval]] at this : Calls Tryd.prog 38 #[.slice A1 n1 c1, .slice A2 n2 c2] W (RetD (u * 10 + d) W)))
            refine rp10_region (fun W => S1 w false none 0 0 W ∧ Sl W W.heap.size A n c (digs u)) _ _ _ A n c u s k d rfl (by kernel_rfl) (by simp) ⟨sr.drew, hI.out.1.via (Below.refl _ _).drew⟩ (fun W W1 h hb => ⟨h.1.via hb, h.2.via hb⟩)
              hdd rfl rfl rfl hlt (fun h => by rw [hd]; omega) TI.out PL.out
              rfl rfl rfl rfl rfl rfl rfl rfl rfl rfl rfl
              (by kernel_rfl) (by kernel_rfl) (by kernel_rfl) (by kernel_rfl) (by kernel_rfl) (by kernel_rfl) (by kernel_rfl) (by kernel_rfl) (by kernel_rfl) (by kernel_rfl) (by kernel_rfl) ?_
            rintro f W9 ⟨sr2, _⟩ ⟨A5, n5, c5, e5, hs5⟩
            simp only [patch_cons, patch_nil, e5]
            clear e5 TI PL
            simp only [List.setIfInBounds_toArray, List.set_cons_zero, List.set_cons_succ]
            obtain ⟨r0, r1⟩ := sr2.facts
            obtain ⟨rf, rz⟩ := sr2.frz
            have hud : u * 10 + d = dval ((cutR s).take (k + 1 - cutF s)) := by
              rw [rp_take hkl hk1, dval_snoc, ← hI.out.2.2.1, hd]; omega
            by_cases h64 : (64 : Int) < n5
            · have hp : Hid (parseS s = none) := Lib.hid (rp_great hud (fun h => by have := few_digs hs5 h; omega))
              clear hud hI hub
              go_wp2_with fail
              rw [hp.out]
              obtain ⟨q0, q1⟩ := two_set (.bool false) (.slice none 0 0) r0 r1
              refine bodyPost_ret (v := .tuple #[.agg #[.bool false, .slice none 0 0], .bool false]) ?_ rfl ⟨_, _, _, rfl, by rw [show digs (vO none).natAbs = [] from digs_zero]; exact Sl.none_, ?_⟩
              · simp [results, Tryd.f14, go_sem, q0, q1]
              · exact (sr2.below.setCell (by simp) _).setCell (by simp) _
            · have hI2 : Hid (RpI W9 s A5 n5 c5 (u * 10 + d) (k + 1)) := Lib.hid ⟨hs5, (digs_fits _).1 (by rw [hs5.len]; omega), hud, by
                rw [rp_take hkl hk1, allD_append]
                exact ⟨hI.out.2.2.2, fun b hb2 => by rw [List.mem_singleton.1 hb2]; exact hb⟩⟩
              clear hud hI hub hs5
              go_wp2_with fail
              refine ⟨⟨k + 1, A5, n5, c5, u * 10 + d, by omega, by omega, rfl, rfl, sr2, hI2⟩, ?_⟩
              simp only [intOf]
              omega
          · have hp : Hid (parseS s = none) := Lib.hid (rp_bad hkl hk1 hb)
            obtain ⟨b, hd⟩ : ∃ b, s[k].toNat = b := ⟨_, rfl⟩
            have e4 : (((⟨s.toArray⟩ : ByteArray)[k]'hkk).toNat : Int) = (b : Int) := by rw [show ((⟨s.toArray⟩ : ByteArray)[k]'hkk) = s[k] from rfl, hd]
            rw [hd] at hb
            obtain ⟨r0, r1⟩ := sr.facts
            obtain ⟨rf, rz⟩ := sr.frz
            clear hI hd
            by_cases hb2 : (b : Int) < 48
            · clear hb
              go_wp2_with fail
              rw [hp.out]
              obtain ⟨q0, q1⟩ := two_set (.bool false) (.slice none 0 0) r0 r1
              refine bodyPost_ret (v := .tuple #[.agg #[.bool false, .slice none 0 0], .bool false]) ?_ rfl ⟨_, _, _, rfl, by rw [show digs (vO none).natAbs = [] from digs_zero]; exact Sl.none_, ?_⟩
              · simp [results, Tryd.f14, go_sem, q0, q1]
              · exact (sr.below.setCell (by simp) _).setCell (by simp) _
            · have hb3 : (57 : Int) < b := by omega
              clear hb
              go_wp2_with fail
              rw [hp.out]
              obtain ⟨q0, q1⟩ := two_set (.bool false) (.slice none 0 0) r0 r1
              refine bodyPost_ret (v := .tuple #[.agg #[.bool false, .slice none 0 0], .bool false]) ?_ rfl ⟨_, _, _, rfl, by rw [show digs (vO none).natAbs = [] from digs_zero]; exact Sl.none_, ?_⟩
              · simp [results, Tryd.f14, go_sem, q0, q1]
              · exact (sr.below.setCell (by simp) _).setCell (by simp) _
        · have hval := rp_val (s := s) (k := k) (by omega) hI.out.2.2.1
          rw [hcn] at hval
          obtain ⟨x, hx⟩ : ∃ x, sgn false u = x := ⟨_, rfl⟩
          have hxb : x.natAbs < big := by rw [← hx, sgn_abs]; exact hI.out.2.1
          have SG : Hid (Calls Tryd.prog 27 #[.bool false, .slice A n c] wr (RetN (some x) wr)) := by
            have := signed_any A n c wr.heap.size u false (digs u) wr hI.out.1 (Nat.le_refl _) (nval_digs u)
            rw [hx, show fitO x = some x by unfold fitO; rw [if_pos hxb]] at this
            exact Lib.hid this
          have hps : Hid (parseS s = if Lib.itoa x = s then some x else none) := Lib.hid (by
            unfold parseS
            rw [hval, hx]
            by_cases h : Lib.itoa x = s
            · rw [if_pos ⟨h, hxb⟩, if_pos h]
            · rw [if_neg (fun h2 => h h2.1), if_neg h])
          have hrd := Lib.hid (textS_digs hxb)
          have TX := Lib.hid (fun (W : World) (A : Option Addr) (n c : Nat) (hs : Sl W W.heap.size A n c (digs x.natAbs)) => reftext_any (decide (x < 0)) hs (Nat.le_refl _))
          rw [hrd.out] at TX
          clear hval hx hxb hI
          by_cases heq : Lib.itoa x = s
          · rw [heq] at TX
            go_wp2_with (first
              | (go_at_call 27; (with_reducible refine (SG.out).mono ?_); rintro e w2 hr; obtain ⟨A6, n6, c6, rfl, hs6, hb6⟩ := retN_some hr; have s6 := sr.via hb6; have s7 := s6.via ((Below.refl _ _).alloc (Nat.le_refl _) (.cells #[.bool (decide (x < 0)), .slice A6 n6 c6] 25)); obtain ⟨r0, r1⟩ := s7.facts; obtain ⟨rf, rz⟩ := s7.frz)
              | (go_at_call 11; (with_reducible refine (TX.out _ _ _ _ (hs6.alloc_ _)).mono ?_); rintro e w3 ⟨rfl, hb7⟩; have s8 := s7.via hb7; obtain ⟨g0, g1⟩ := bcell hb7; clear r0 r1 rf rz; obtain ⟨r0, r1⟩ := s8.facts; obtain ⟨rf, rz⟩ := s8.frz)
              | fail "no arm")
            rw [hps.out, if_pos heq]
            obtain ⟨q0, q1⟩ := two_set (.bool (decide (x < 0))) (.slice A6 n6 c6) r0 r1
            refine bodyPost_ret (v := .tuple #[.agg #[.bool (decide (x < 0)), .slice A6 n6 c6], .bool true]) ?_ rfl ⟨A6, n6, c6, rfl, ?_, ?_⟩
            · simp [results, Tryd.f14, go_sem, q0, q1]
            · exact (((hs6.alloc_ _).below hb7).more hb7.size).stored r0 r1 _ _
            · exact (s8.below.setCell (by simp) _).setCell (by simp) _
          · have hbq : (Lib.itoa x == s) = false := by simp [heq]
            go_wp2_with (first
              | (go_at_call 27; (with_reducible refine (SG.out).mono ?_); rintro e w2 hr; obtain ⟨A6, n6, c6, rfl, hs6, hb6⟩ := retN_some hr; have s6 := sr.via hb6; have s7 := s6.via ((Below.refl _ _).alloc (Nat.le_refl _) (.cells #[.bool (decide (x < 0)), .slice A6 n6 c6] 25)); obtain ⟨r0, r1⟩ := s7.facts; obtain ⟨rf, rz⟩ := s7.frz)
              | (go_at_call 11; (with_reducible refine (TX.out _ _ _ _ (hs6.alloc_ _)).mono ?_); rintro e w3 ⟨rfl, hb7⟩; have s8 := s7.via hb7; obtain ⟨g0, g1⟩ := bcell hb7; clear r0 r1 rf rz; obtain ⟨r0, r1⟩ := s8.facts; obtain ⟨rf, rz⟩ := s8.frz)
              | fail "no arm")
            rw [hps.out, if_neg heq]
            obtain ⟨q0, q1⟩ := two_set (.bool false) (.slice none 0 0) r0 r1
            refine bodyPost_ret (v := .tuple #[.agg #[.bool false, .slice none 0 0], .bool false]) ?_ rfl ⟨_, _, _, rfl, by rw [show digs (vO none).natAbs = [] from digs_zero]; exact Sl.none_, ?_⟩
            · simp [results, Tryd.f14, go_sem, q0, q1]
            · exact (s8.below.setCell (by simp) _).setCell (by simp) _
  · have hf : cutF s = 0 := cutF_nil (by omega)
    have hcn := cutN_zero hf
    go_enter Tryd.func14, Tryd.ntmps14
    go_wp2_with fail
    go_loopw [5, 6] (fun x y W => ∃ k A n c u, cutF s ≤ k ∧ k ≤ s.length ∧ x = .slice A n c ∧ y = .int .i64 (k : Nat) ∧ S1 w false none 0 0 W ∧ Hid (RpI W s A n c u k)) (fun _ y _ => s.length - (intOf y).toNat)
    case atStart => exact ⟨0, none, 0, 0, 0, by omega, by omega, rfl, rfl, s0, Lib.hid ⟨by rw [digs_zero]; exact Sl.none_, by unfold big; exact Nat.pos_of_ne_zero (by simp), by rw [hf]; rfl, by rw [hf]; intro b hb; simp at hb⟩⟩
    case round =>
      obtain ⟨k, A, n, c, u, hk1, hk2, rfl, rfl, sr, hI⟩ := hrel
      clear s0
      have hn64 := few_digs hI.out.1 hI.out.2.1
      by_cases hlt : (k : Int) < s.length
      · exfalso; omega
      · have hval := rp_val (s := s) (k := k) (by omega) hI.out.2.2.1
        rw [hcn] at hval
        obtain ⟨x, hx⟩ : ∃ x, sgn false u = x := ⟨_, rfl⟩
        have hxb : x.natAbs < big := by rw [← hx, sgn_abs]; exact hI.out.2.1
        have SG : Hid (Calls Tryd.prog 27 #[.bool false, .slice A n c] wr (RetN (some x) wr)) := by
          have := signed_any A n c wr.heap.size u false (digs u) wr hI.out.1 (Nat.le_refl _) (nval_digs u)
          rw [hx, show fitO x = some x by unfold fitO; rw [if_pos hxb]] at this
          exact Lib.hid this
        have hps : Hid (parseS s = if Lib.itoa x = s then some x else none) := Lib.hid (by
          unfold parseS
          rw [hval, hx]
          by_cases h : Lib.itoa x = s
          · rw [if_pos ⟨h, hxb⟩, if_pos h]
          · rw [if_neg (fun h2 => h h2.1), if_neg h])
        have hrd := Lib.hid (textS_digs hxb)
        have TX := Lib.hid (fun (W : World) (A : Option Addr) (n c : Nat) (hs : Sl W W.heap.size A n c (digs x.natAbs)) => reftext_any (decide (x < 0)) hs (Nat.le_refl _))
        rw [hrd.out] at TX
        clear hval hx hxb hI
        by_cases heq : Lib.itoa x = s
        · rw [heq] at TX
          go_wp2_with (first
            | (go_at_call 27; (with_reducible refine (SG.out).mono ?_); rintro e w2 hr; obtain ⟨A6, n6, c6, rfl, hs6, hb6⟩ := retN_some hr; have s6 := sr.via hb6; have s7 := s6.via ((Below.refl _ _).alloc (Nat.le_refl _) (.cells #[.bool (decide (x < 0)), .slice A6 n6 c6] 25)); obtain ⟨r0, r1⟩ := s7.facts; obtain ⟨rf, rz⟩ := s7.frz)
            | (go_at_call 11; (with_reducible refine (TX.out _ _ _ _ (hs6.alloc_ _)).mono ?_); rintro e w3 ⟨rfl, hb7⟩; have s8 := s7.via hb7; obtain ⟨g0, g1⟩ := bcell hb7; clear r0 r1 rf rz; obtain ⟨r0, r1⟩ := s8.facts; obtain ⟨rf, rz⟩ := s8.frz)
            | fail "no arm")
          rw [hps.out, if_pos heq]
          obtain ⟨q0, q1⟩ := two_set (.bool (decide (x < 0))) (.slice A6 n6 c6) r0 r1
          refine bodyPost_ret (v := .tuple #[.agg #[.bool (decide (x < 0)), .slice A6 n6 c6], .bool true]) ?_ rfl ⟨A6, n6, c6, rfl, ?_, ?_⟩
          · simp [results, Tryd.f14, go_sem, q0, q1]
          · exact (((hs6.alloc_ _).below hb7).more hb7.size).stored r0 r1 _ _
          · exact (s8.below.setCell (by simp) _).setCell (by simp) _
        · have hbq : (Lib.itoa x == s) = false := by simp [heq]
          go_wp2_with (first
            | (go_at_call 27; (with_reducible refine (SG.out).mono ?_); rintro e w2 hr; obtain ⟨A6, n6, c6, rfl, hs6, hb6⟩ := retN_some hr; have s6 := sr.via hb6; have s7 := s6.via ((Below.refl _ _).alloc (Nat.le_refl _) (.cells #[.bool (decide (x < 0)), .slice A6 n6 c6] 25)); obtain ⟨r0, r1⟩ := s7.facts; obtain ⟨rf, rz⟩ := s7.frz)
            | (go_at_call 11; (with_reducible refine (TX.out _ _ _ _ (hs6.alloc_ _)).mono ?_); rintro e w3 ⟨rfl, hb7⟩; have s8 := s7.via hb7; obtain ⟨g0, g1⟩ := bcell hb7; clear r0 r1 rf rz; obtain ⟨r0, r1⟩ := s8.facts; obtain ⟨rf, rz⟩ := s8.frz)
            | fail "no arm")
          rw [hps.out, if_neg heq]
          obtain ⟨q0, q1⟩ := two_set (.bool false) (.slice none 0 0) r0 r1
          refine bodyPost_ret (v := .tuple #[.agg #[.bool false, .slice none 0 0], .bool false]) ?_ rfl ⟨_, _, _, rfl, by rw [show digs (vO none).natAbs = [] from digs_zero]; exact Sl.none_, ?_⟩
          · simp [results, Tryd.f14, go_sem, q0, q1]
          · exact (s8.below.setCell (by simp) _).setCell (by simp) _

end Go.Proofs.YthnickjbknpmhaaDoor
