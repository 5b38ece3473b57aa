/-
  Slices of digits with their capacities; a block of digits that a call made; make; the contract of minus.
-/
import Derived.Test.YthnickjbknpmhaaGreatDoorNumC
import Derived.LoopTactic
import Derived.OwnWalk
import Derived.Deep.OwnRows
import Derived.Carry
namespace Go.Proofs.YthnickjbknpmhaaGreatDoor
open Go.RowKit

/-- The digit at a place, 0 beyond the end. -/
def dg (l : List Nat) (k : Nat) : Nat := l.getD k 0
theorem dg_lt {l : List Nat} (h : Dig l) (k : Nat) : dg l k < 4294967296 := by
  unfold dg
  rw [List.getD_eq_getElem?_getD]
  rcases Nat.lt_or_ge k l.length with h1 | h1
  · rw [List.getElem?_eq_getElem h1]; exact h _ (List.getElem_mem h1)
  · rw [List.getElem?_eq_none h1]; simp
theorem dg_past {l : List Nat} {k : Nat} (h : l.length ≤ k) : dg l k = 0 := by
  unfold dg; rw [List.getD_eq_getElem?_getD, List.getElem?_eq_none h]; rfl
theorem dg_get {l : List Nat} {k : Nat} (h : k < l.length) : dg l k = l[k] := by
  unfold dg; rw [List.getD_eq_getElem?_getD, List.getElem?_eq_getElem h]; rfl
theorem nval_take_dg (l : List Nat) (k : Nat) : nval (l.take (k + 1)) = nval (l.take k) + 4294967296 ^ k * dg l k := by
  rcases Nat.lt_or_ge k l.length with h | h
  · rw [nval_take_succ h, dg_get h]
  · rw [nval_take_past h, dg_past h]; simp
theorem nval_set_take (o : List Nat) (k d : Nat) (h : k < o.length) : nval ((o.set k d).take (k + 1)) = nval (o.take k) + 4294967296 ^ k * d := by
  rw [nval_take_succ (by simpa using h), List.getElem_set_self, List.take_set_of_le (Nat.le_refl _)]
theorem dig_set {o : List Nat} {k d : Nat} (h : Dig o) (hd : d < 4294967296) : Dig (o.set k d) := fun x hx => by
  rcases List.mem_or_eq_of_mem_set hx with h1 | h1
  · exact h _ h1
  · omega
theorem dig_zeros (n : Nat) : Dig (List.replicate n 0) := fun d hd => by rw [List.eq_of_mem_replicate hd]; omega

/-- A slice value of digits with its capacity. -/
def Sl (w : World) (B : Nat) (A : Option Addr) (n c : Nat) (l : List Nat) : Prop := RD w B A n l ∧ n ≤ c ∧ c ≤ 9223372036854775807
theorem Sl.len {w : World} {B n c : Nat} {A : Option Addr} {l : List Nat} (h : Sl w B A n c l) : l.length = n := h.1.len
theorem Sl.dig {w : World} {B n c : Nat} {A : Option Addr} {l : List Nat} (h : Sl w B A n c l) : Dig l := h.1.2
theorem Sl.at_ {w : World} {B n c k : Nat} {A : Option Addr} {l : List Nat} (h : Sl w B A n c l) (hk : k < n) : ∃ ad : Addr, A = some ad ∧ ad.block < B ∧ w.cell? (ad.add k) = some (.int .u32 (dg l k : Nat)) := by
  obtain ⟨ad, hl, e, hb, hc, _⟩ := h.1.at_ hk
  exact ⟨ad, e, hb, by rw [dg_get hl]; exact hc⟩
theorem Sl.below {w w' : World} {B n c : Nat} {A : Option Addr} {l : List Nat} (h : Sl w B A n c l) (hb : Below B w w') : Sl w' B A n c l := ⟨h.1.below hb, h.2⟩
theorem Sl.more {w : World} {B B' n c : Nat} {A : Option Addr} {l : List Nat} (h : Sl w B A n c l) (hB : B ≤ B') : Sl w B' A n c l := ⟨h.1.more hB, h.2⟩
theorem Sl.none_ {w : World} {B : Nat} : Sl w B none 0 0 [] := ⟨RD.none_, Nat.le_refl _, by omega⟩
theorem Sl.take {w : World} {B n c : Nat} {A : Option Addr} {l : List Nat} (h : Sl w B A n c l) {k : Nat} (hk : k ≤ n) : Sl w B A k c (l.take k) := ⟨h.1.take hk, by have := h.2; omega⟩
theorem Sl.trim {w : World} {B n c : Nat} {A : Option Addr} {l : List Nat} (h : Sl w B A n c l) : Sl w B A (trimL l).length c (trimL l) := by
  have hk : (trimL l).length ≤ n := by have := trimL_length l; rw [h.len] at this; exact this
  have := h.take hk
  rwa [trimL_take] at this
theorem Sl.val {w : World} {B n c v : Nat} {A : Option Addr} {l : List Nat} (h : Sl w B A n c l) (hv : nval l = v) : Sl w B A (trimL l).length c (digs v) := by
  subst hv; rw [← trimL_digs h.dig]; exact h.trim

/-- A block that is just digits. -/
def DBk (w : World) (g : Nat) (T : TypeId) (l : List Nat) : Prop := w.heap[g]? = some (.cells (u32s l).toArray T (0, 0))
theorem DBk.lt {w : World} {g T : Nat} {l : List Nat} (h : DBk w g T l) : g < w.heap.size := lt_of_heap h
theorem DBk.cell {w : World} {g T : Nat} {l : List Nat} (h : DBk w g T l) {k : Nat} (hk : k < l.length) : w.cell? ⟨g, k, none⟩ = some (.int .u32 (dg l k : Nat)) := by
  rw [cell_of_heap h, dg_get hk]
  simp [u32s, hk]
theorem DBk.frozen {w : World} {g T : Nat} {l : List Nat} (h : DBk w g T l) (k : Nat) : w.frozen? ⟨g, k, none⟩ = false := frozen_of_heap h
theorem DBk.set {w : World} {g T : Nat} {l : List Nat} (h : DBk w g T l) (k d : Nat) : DBk (w.setCell ⟨g, k, none⟩ (.int .u32 (d : Int))) g T (l.set k d) := by
  unfold DBk at h ⊢
  simp [World.setCell, Array.getElem?_modify, h, u32s, List.map_set]
theorem DBk.below {w w' : World} {g T : Nat} {l : List Nat} (h : DBk w g T l) {B : Nat} (hb : Below B w w') (hg : g < B) : DBk w' g T l := (hb.block g hg).trans h
theorem DBk.alloc {w : World} {g T : Nat} {l : List Nat} (h : DBk w g T l) (o : Obj) : DBk (w.alloc o) g T l := (Below.heap_alloc w o g h.lt).trans h
theorem DBk.sl {w : World} {g T B : Nat} {l : List Nat} (h : DBk w g T l) (hd : Dig l) (hg : g < B) (hl : l.length ≤ 1000000) : Sl w B (some ⟨g, 0, none⟩) l.length l.length l := by
  refine ⟨⟨⟨by simp [u32s_length], fun _ => ⟨_, rfl, hg, fun j u hu => ?_⟩⟩, hd⟩, Nat.le_refl _, by omega⟩
  have e : (⟨g, 0, none⟩ : Addr).add j = ⟨g, j, none⟩ := by unfold Addr.add; split <;> simp [*]
  rw [e, cell_of_heap h]
  simpa using hu
theorem madeCells_u32 (n : Nat) : madeCells #[.int .u32 0] n = (u32s (List.replicate n 0)).toArray := by
  apply Array.ext
  · simp [madeCells, u32s]
  · intro i h1 h2
    simp [madeCells, u32s, Nat.mod_one]
theorem DBk.new (w : World) (T n : Nat) : DBk (w.alloc (.cells (madeCells #[.int .u32 0] n) T)) w.heap.size T (List.replicate n 0) := by
  unfold DBk; rw [madeCells_u32]; exact heap_alloc_new w _
theorem Tryz.infoU32 : (Tryz.prog.info? 40).map (fun i => (i.zero, i.size, i.bytes)) = some (some (.int .u32 0), 1, 4) := by kernel_rfl
theorem run_make_mag (n : Nat) (hn : n ≤ 1000000) : ∀ w, (Instr.makeSlice 50 (.int .i64 (n : Int)) (.int .i64 (n : Int))).run Tryz.prog w = .ok (.slice (some ⟨w.heap.size, 0, none⟩) n n) (w.alloc (.cells (madeCells #[.int .u32 0] n) 40)) :=
  run_make_row' (P := Tryz.prog) 50 40 (.int .u32 0) 4 Tryz.underlying50 Tryz.infoU32 rfl .i64 .i64 n (by omega) (by omega)

/-- A call returns digits of a value, in a slice, and leaves old memory. -/
def RetD (v : Nat) (w : World) (e : Ending) (w' : World) : Prop := ∃ A n c, e = .returned (.slice A n c) ∧ Sl w' w'.heap.size A n c (digs v) ∧ Below w.heap.size w w'

theorem trim_val {A : Option Addr} {n c B v : Nat} {l : List Nat} {w : World} (h : Sl w B A n c l) (hv : nval l = v) :
    Calls Tryz.prog 50 #[.slice A n c] w fun e w' => ∃ n', e = .returned (.slice A n' c) ∧ Sl w B A n' c (digs v) ∧ w = w' :=
  (trim_any A n c B l w h.1 h.2.1 h.2.2).mono fun _ _ ⟨he, hw⟩ => ⟨_, he, h.val hv, hw⟩

theorem minus_step {L M O bw l m P P' d b : Nat} (hp : P' = P * 4294967296) (hd : d + m + bw = l + 4294967296 * b) (h : L + P * bw = O + M) :
    L + P * l + P' * b = O + P * d + (M + P * m) := by
  have : P * (d + m + bw) = P * (l + 4294967296 * b) := by rw [hd]
  simp only [Nat.mul_add, ← Nat.mul_assoc] at this
  subst hp
  omega
theorem plus_step {L M O c l m P P' d b : Nat} (hp : P' = P * 4294967296) (hd : d + 4294967296 * b = l + m + c) (h : O + P * c = L + M) :
    O + P * d + P' * b = L + P * l + (M + P * m) := by
  have : P * (d + 4294967296 * b) = P * (l + m + c) := by rw [hd]
  simp only [Nat.mul_add, ← Nat.mul_assoc] at this
  subst hp
  omega

set_option maxHeartbeats 400000 in
theorem minus_any (A A2 : Option Addr) (n c n2 c2 B : Nat) (l m : List Nat) (w : World) (h : Sl w B A n c l) (h2 : Sl w B A2 n2 c2 m) (hB : B ≤ w.heap.size) (hn : n ≤ 1000) (hn2 : n2 ≤ n) (hle : nval m ≤ nval l) :
    Calls Tryz.prog 27 #[.slice A n c, .slice A2 n2 c2] w (RetD (nval l - nval m) w) := by
  have HL := Lib.hid h.len
  have HL2 := Lib.hid h2.len
  have H := Lib.hid h
  have H2 := Lib.hid h2
  clear h h2
  have hmk := run_make_mag n (by omega)
  go_enter Tryz.func27, Tryz.ntmps27
  go_wp2
  clear hmk
  go_loopw [6, 15] (fun b k wr => ∃ (j bw : Nat) (o : List Nat), j ≤ n ∧ bw ≤ 1 ∧ k = .int .i64 j ∧ b = .int .u32 bw ∧ DBk wr w.heap.size 40 o ∧ Hid (o.length = n ∧ Dig o ∧ nval (l.take j) + 4294967296 ^ j * bw = nval (o.take j) + nval (m.take j)) ∧ Below w.heap.size w wr) (fun _ k _ => n - (intOf k).toNat)
  case atStart => exact ⟨0, 0, List.replicate n 0, by omega, by omega, rfl, rfl, DBk.new w _ n, by unfold Hid; exact ⟨by simp, dig_zeros n, by simp [nval]⟩, by go_grown⟩
  case round =>
    obtain ⟨j, bw, o, hj, hbw, rfl, rfl, hO, hI, hBw⟩ := hrel
    by_cases hlt : j < n
    · obtain ⟨ad, rfl, hb, hc⟩ := (H.out.below (hBw.mono hB)).at_ (k := j) hlt
      have hd1 := dg_lt H.out.dig j
      have hd2 := dg_lt H2.out.dig j
      have hcg := hO.cell (k := j) (by rw [hI.out.1]; exact hlt)
      have hfg := hO.frozen j
      have hz := hO.lt
      obtain ⟨y, hy⟩ : ∃ y, dg m j = y := ⟨_, rfl⟩
      have hN : Hid ((o.set j (sbD (dg l j) y bw)).length = n ∧ Dig (o.set j (sbD (dg l j) y bw)) ∧ nval (l.take (j + 1)) + 4294967296 ^ (j + 1) * sbB (dg l j) y bw = nval ((o.set j (sbD (dg l j) y bw)).take (j + 1)) + nval (m.take (j + 1))) := by
        obtain ⟨i1, i2, i3⟩ := hI.out
        rw [hy] at hd2
        have s := sb_spec hd1 hd2 hbw
        refine ⟨by simpa using i1, dig_set i2 s.2.1, ?_⟩
        rw [nval_take_dg l, nval_take_dg m, nval_set_take _ _ _ (by omega), hy]
        exact minus_step (Nat.pow_succ ..) s.1 i3
      have hb1 := (sb_spec hd1 (by rw [← hy]; exact hd2 : y < 4294967296) hbw).2.2
      have hO2 := hO.set j (sbD (dg l j) y bw)
      clear hO hI
      by_cases hlt2 : j < n2
      · obtain ⟨ad2, rfl, hb2, hc2⟩ := (H2.out.below (hBw.mono hB)).at_ (k := j) hlt2
        rw [hy] at hc2 hd2
        clear hy
        go_wp2_with (go_at_call 56; refine (sub32_to (dg l j) y bw _ hd1 hd2 hbw).mono ?_; rintro e w' ⟨rfl, rfl⟩)
        go_roundw
        case rel => exact ⟨j + 1, _, _, by omega, hb1, by go_num, rfl, hO2, hN, by go_grown⟩
        case measure => simp [intOf]; omega
      · obtain rfl : 0 = y := by rw [← hy]; exact (dg_past (by have := HL2.out; omega)).symm
        clear hy hd2
        go_wp2_with (go_at_call 56; refine (sub32_to (dg l j) 0 bw _ hd1 (by omega) hbw).mono ?_; rintro e w' ⟨rfl, rfl⟩)
        go_roundw
        case rel => exact ⟨j + 1, _, _, by omega, hb1, by go_num, rfl, hO2, hN, by go_grown⟩
        case measure => simp [intOf]; omega
    · have hjn : j = n := by omega
      have hv : Hid (nval o = nval l - nval m) := by
        obtain ⟨i1, i2, i3⟩ := hI.out
        have h1 := HL.out
        have h2 := HL2.out
        rw [List.take_of_length_le (by omega), List.take_of_length_le (by omega), List.take_of_length_le (by omega)] at i3
        have h3 := nval_lt i2
        rw [i1, ← hjn] at h3
        unfold Hid
        rcases Nat.eq_zero_or_pos bw with h0 | h0
        · subst h0; simp at i3; omega
        · have h5 : bw = 1 := by omega
          subst h5; omega
      have hsl : Sl wr (w.heap.size + 1) (some ⟨w.heap.size, 0, none⟩) n n o := by
        obtain ⟨i1, i2, i3⟩ := hI.out
        have := hO.sl i2 (B := w.heap.size + 1) (by omega) (by omega)
        rwa [i1] at this
      have hz := hO.lt
      clear hjn hO hI
      go_wp2_with (go_at_call 50; refine (trim_val hsl hv.out).mono ?_; rintro e w' ⟨n', rfl, hs', rfl⟩)
      go_ret
      exact ⟨_, _, _, rfl, hs'.more (by omega), hBw⟩
end Go.Proofs.YthnickjbknpmhaaGreatDoor
