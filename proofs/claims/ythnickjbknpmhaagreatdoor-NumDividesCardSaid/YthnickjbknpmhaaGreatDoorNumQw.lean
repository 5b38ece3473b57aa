/-
  The contract of over: long division, the walk.
-/
import Derived.Test.YthnickjbknpmhaaGreatDoorNumQ
namespace Go.Proofs.YthnickjbknpmhaaGreatDoor
open Go.RowKit Go.Shelf

attribute [local go_sem] Oper.semAt_some

set_option maxRecDepth 100000 in
set_option maxHeartbeats 4000000 in
theorem over_big {A A2 : Option Addr} {N m c c2 B : Nat} {l v : List Nat} {w : World} (h : Sl w B A N c l) (h2 : Sl w B A2 (m + 1) c2 v) (hB : B ≤ w.heap.size) (hl : Canon l) (hm : Canon v) (hN : N ≤ 1000) (hm1 : 1 ≤ m) (hge : nval v ≤ nval l) :
    Calls Tryz.prog 25 #[.slice A N c, .slice A2 (m + 1) c2] w (RetOver (nval l) (nval v) w) := by
  have hc := cmpv_nn hge
  have hmN : m + 1 ≤ N := by have := canon_len_le hm hl.1 hge; rw [h.len, h2.len] at this; exact this
  have H := Lib.hid (h.more hB)
  have H2 := Lib.hid (h2.more hB)
  have htop : dg v m ≠ 0 := by
    have hlen := h2.len
    intro e
    refine hm.2 ?_
    rw [List.getLast?_eq_getElem?, hlen, Nat.add_sub_cancel, List.getElem?_eq_getElem (by omega), ← dg_get (by omega), e]
  have HL := Lib.hid h.len
  have HL2 := Lib.hid h2.len
  have HT := Lib.hid htop
  have hd0 := dg_lt hm.1 m
  have hd1 : ((((m + 1 : Nat) : Int)) == 1) = false := by simp; omega
  have hd2 : ((((m : Nat) : Int) + 1) == 1) = false := by simp; omega
  have hd3 : ((((m : Nat) : Int)) == 0) = false := by simp; omega
  clear h h2 hge htop
  refine (callsIn_wide (n := 3)).1 ?_
  refine callsIn_of_wp_marks Tryz.func25 rfl trivial ?_ rfl
  simp only [Tryz.ntmps25, List.size_toArray, List.length_cons, List.length_nil, Nat.reduceAdd, Nat.reduceSub, Array.replicate_succ, Array.replicate_zero, List.push_toArray, List.append_toArray, List.nil_append, List.cons_append]
  refine wpIn_wide.2 ?_
  go_upto_region 7 with (go_at_call 49; refine (compare_any H.out H2.out (Nat.le_refl _) hl hm).mono ?_; rintro e w1 ⟨rfl, hb⟩)
  obtain ⟨ad, hA2, hbl, hcell⟩ := (H2.out.below hb).at_ (k := m) (by omega)
  have hz := hb.size
  subst hA2
  have hcell2 : ∀ o, (w1.alloc o).cell? (ad.add m) = some (.int .u32 (dg v m : Nat)) := fun o => (World.cell?_alloc_lt w1 o (ad.add m) (by rw [block_of_add]; omega)).trans hcell
  clear hcell
  go_upto_region 8 with (go_at_call 51; refine (lz_any (dg v m) _ HT.out hd0).mono ?_; rintro e w2 ⟨⟨s, rfl, hs, hts⟩, rfl⟩; clear hcell2)
  have hfit : Hid (nval l * 2 ^ s < 4294967296 ^ (N + 1) ∧ nval v * 2 ^ s < 4294967296 ^ (m + 1)) := ⟨shift_up HL.out hl.1 hs, shift_fits HL2.out hm.1 hts (by omega)⟩
  have hW2 : Below w.heap.size w (w1.alloc (.cells #[.int .i64 ((m : Int) + 1)] 3)) := hb.alloc hz _
  have UL := Lib.hid (fun (W : World) (hq : OvS w w1.heap.size (.int .i64 ((m : Int) + 1)) W) => (show Calls Tryz.prog 52 #[.slice A N c, .int .i64 (s : Nat), .int .i64 ((N : Int) + 1)] W (fun e w' => RetUp (N + 1) (nval l * 2 ^ s) W e w' ∧ OvS w w1.heap.size (.int .i64 ((m : Int) + 1)) w') from (up_any A N c w.heap.size s (N + 1) l W (H.out.below hq.2.2.2) hq.2.2.1 (by omega) (by omega) hs hfit.out.1).mono fun _ _ hr => ⟨hr, hq.below (let ⟨_, _, _, _, _, _, hbb, _⟩ := hr; hbb)⟩))
  have UV := Lib.hid (fun (W : World) (hq : OvS w w1.heap.size (.int .i64 ((m : Int) + 1)) W) => (show Calls Tryz.prog 52 #[.slice (some ad) (m + 1) c2, .int .i64 (s : Nat), .int .i64 ((m : Int) + 1)] W (fun e w' => RetUp (m + 1) (nval v * 2 ^ s) W e w' ∧ OvS w w1.heap.size (.int .i64 ((m : Int) + 1)) w') from (up_any (some ad) (m + 1) c2 w.heap.size s (m + 1) v W (H2.out.below hq.2.2.2) hq.2.2.1 (by omega) (by omega) hs hfit.out.2).mono fun _ _ hr => ⟨hr, hq.below (let ⟨_, _, _, _, _, _, hbb, _⟩ := hr; hbb)⟩))
  obtain ⟨W2, hW2e⟩ : ∃ W2, w1.alloc (.cells #[.int .i64 ((m : Int) + 1)] 3) = W2 := ⟨_, rfl⟩
  have b0 : Boxed W2 w1.heap.size 3 (.int .i64 ((m : Int) + 1)) := by rw [← hW2e]; exact Boxed.new _ _ _
  have hz2 : w1.heap.size + 1 ≤ W2.heap.size := by rw [← hW2e]; simp
  rw [hW2e] at hW2 ⊢
  clear hW2e hts hd0 hbl hb
  go_cut [10, 11] from 43 to 52 (fun p10 p11 W => ∃ (gu gv bu bv : Nat) (u0 v0 : List Nat), p10 = .pointer (some ⟨bu, 0, none⟩) ∧ p11 = .pointer (some ⟨bv, 0, none⟩) ∧ Hid (u0.length = N + 1 ∧ Dig u0 ∧ nval u0 = nval l * 2 ^ s ∧ v0.length = m + 1 ∧ Dig v0 ∧ nval v0 = nval v * 2 ^ s) ∧ OvB w.heap.size w w1.heap.size (m + 1) gu gv bu bv N u0 v0 W)
  case first =>
    have o0 : OvS w w1.heap.size (.int .i64 ((m : Int) + 1)) W2 := ⟨b0, hz2, by omega, hW2⟩
    have hz4 := o0.2.2.1
    have hwr : IntKind.i64.wrap ((N : Int) + 1) = (N : Int) + 1 := by rw [IntKind.wrap_i64]; omega
    go_region_held3 (fun W => W.cell? ⟨w1.heap.size, 0, none⟩ = some (.int .i64 ((m : Int) + 1)) ∧ OvS w w1.heap.size (.int .i64 ((m : Int) + 1)) W)
      ((refine OvS.pair ?_; (repeat (first | assumption | refine OvS.drew ?_ | refine OvS.alloc ?_ _ | refine OvS.setCell ?_ ?_ ?_ _ | (dsimp only; omega)))))
      (first
        | (go_at_call 52; (with_reducible refine (UL.out _ (OvS.drew o0)).mono ?_); rintro e w3 ⟨⟨u0, rfl, hDu, hlu, hdu, hvu, hbu, hzu⟩, osu⟩; have HLU := Lib.hid hlu; have HVU := Lib.hid hvu; have HZU := Lib.hid hzu; have hsu := hbu.size; (try (simp at hsu; (try rw [Nat.add_one_le_iff] at hsu))); clear hlu hvu hzu; obtain ⟨hcu, hfu⟩ := bcell hbu; have pu1 := osu.2.1; have pu2 := osu.2.2.1; (try (have xa1 : W2.heap.size < w3.heap.size := by omega)); (try (have xa2 : W2.heap.size + 1 < w3.heap.size := by omega)); (try (have xa3 : W2.heap.size < w3.heap.size + 1 := by omega)); (try (have xa4 : W2.heap.size + 1 < w3.heap.size + 1 := by omega)); (try (have xa5 : W2.heap.size < w3.heap.size + 1 + 1 := by omega)); (try (have xa6 : W2.heap.size + 1 < w3.heap.size + 1 + 1 := by omega)); (try (have xa7 : W2.heap.size ≤ w3.heap.size := by omega)); (try (have xa8 : W2.heap.size + 1 ≤ w3.heap.size := by omega)))
        | (go_at_call 52; (with_reducible refine (UL.out _ (OvS.drew (o0.alloc _))).mono ?_); rintro e w3 ⟨⟨u0, rfl, hDu, hlu, hdu, hvu, hbu, hzu⟩, osu⟩; have HLU := Lib.hid hlu; have HVU := Lib.hid hvu; have HZU := Lib.hid hzu; have hsu := hbu.size; (try (simp at hsu; (try rw [Nat.add_one_le_iff] at hsu))); clear hlu hvu hzu; obtain ⟨hcu, hfu⟩ := bcell hbu; have pu1 := osu.2.1; have pu2 := osu.2.2.1; (try (have xa1 : W2.heap.size < w3.heap.size := by omega)); (try (have xa2 : W2.heap.size + 1 < w3.heap.size := by omega)); (try (have xa3 : W2.heap.size < w3.heap.size + 1 := by omega)); (try (have xa4 : W2.heap.size + 1 < w3.heap.size + 1 := by omega)); (try (have xa5 : W2.heap.size < w3.heap.size + 1 + 1 := by omega)); (try (have xa6 : W2.heap.size + 1 < w3.heap.size + 1 + 1 := by omega)); (try (have xa7 : W2.heap.size ≤ w3.heap.size := by omega)); (try (have xa8 : W2.heap.size + 1 ≤ w3.heap.size := by omega)))
        | (go_at_call 52; (with_reducible refine (UL.out _ (OvS.drew ((o0.alloc _).alloc _))).mono ?_); rintro e w3 ⟨⟨u0, rfl, hDu, hlu, hdu, hvu, hbu, hzu⟩, osu⟩; have HLU := Lib.hid hlu; have HVU := Lib.hid hvu; have HZU := Lib.hid hzu; have hsu := hbu.size; (try (simp at hsu; (try rw [Nat.add_one_le_iff] at hsu))); clear hlu hvu hzu; obtain ⟨hcu, hfu⟩ := bcell hbu; have pu1 := osu.2.1; have pu2 := osu.2.2.1; (try (have xa1 : W2.heap.size < w3.heap.size := by omega)); (try (have xa2 : W2.heap.size + 1 < w3.heap.size := by omega)); (try (have xa3 : W2.heap.size < w3.heap.size + 1 := by omega)); (try (have xa4 : W2.heap.size + 1 < w3.heap.size + 1 := by omega)); (try (have xa5 : W2.heap.size < w3.heap.size + 1 + 1 := by omega)); (try (have xa6 : W2.heap.size + 1 < w3.heap.size + 1 + 1 := by omega)); (try (have xa7 : W2.heap.size ≤ w3.heap.size := by omega)); (try (have xa8 : W2.heap.size + 1 ≤ w3.heap.size := by omega)))
        | (go_at_call 52; (with_reducible refine (UV.out _ (osu)).mono ?_); rintro e w4 ⟨⟨v0, rfl, hDv, hlv, hdv, hvv, hbv, hzv⟩, osv⟩; have HLV := Lib.hid hlv; have HVV := Lib.hid hvv; have HZV := Lib.hid hzv; have hsv := hbv.size; (try (simp at hsv; (try rw [Nat.add_one_le_iff] at hsv))); clear hlv hvv hzv; obtain ⟨hcv, hfv⟩ := bcell hbv; have pv1 := osv.2.1; have pv2 := osv.2.2.1; (try (have xb1 : W2.heap.size < w4.heap.size := by omega)); (try (have xb2 : W2.heap.size + 1 < w4.heap.size := by omega)); (try (have xb3 : w3.heap.size < w4.heap.size := by omega)); (try (have xb4 : w3.heap.size + 1 < w4.heap.size := by omega)); (try (have xb5 : W2.heap.size ≤ w4.heap.size := by omega)); (try (have xb6 : w3.heap.size ≤ w4.heap.size := by omega)))
        | (go_at_call 52; (with_reducible refine (UV.out _ (osu.alloc _)).mono ?_); rintro e w4 ⟨⟨v0, rfl, hDv, hlv, hdv, hvv, hbv, hzv⟩, osv⟩; have HLV := Lib.hid hlv; have HVV := Lib.hid hvv; have HZV := Lib.hid hzv; have hsv := hbv.size; (try (simp at hsv; (try rw [Nat.add_one_le_iff] at hsv))); clear hlv hvv hzv; obtain ⟨hcv, hfv⟩ := bcell hbv; have pv1 := osv.2.1; have pv2 := osv.2.2.1; (try (have xb1 : W2.heap.size < w4.heap.size := by omega)); (try (have xb2 : W2.heap.size + 1 < w4.heap.size := by omega)); (try (have xb3 : w3.heap.size < w4.heap.size := by omega)); (try (have xb4 : w3.heap.size + 1 < w4.heap.size := by omega)); (try (have xb5 : W2.heap.size ≤ w4.heap.size := by omega)); (try (have xb6 : w3.heap.size ≤ w4.heap.size := by omega)))
        | (go_at_call 52; (with_reducible refine (UV.out _ ((osu.alloc _).alloc _)).mono ?_); rintro e w4 ⟨⟨v0, rfl, hDv, hlv, hdv, hvv, hbv, hzv⟩, osv⟩; have HLV := Lib.hid hlv; have HVV := Lib.hid hvv; have HZV := Lib.hid hzv; have hsv := hbv.size; (try (simp at hsv; (try rw [Nat.add_one_le_iff] at hsv))); clear hlv hvv hzv; obtain ⟨hcv, hfv⟩ := bcell hbv; have pv1 := osv.2.1; have pv2 := osv.2.2.1; (try (have xb1 : W2.heap.size < w4.heap.size := by omega)); (try (have xb2 : W2.heap.size + 1 < w4.heap.size := by omega)); (try (have xb3 : w3.heap.size < w4.heap.size := by omega)); (try (have xb4 : w3.heap.size + 1 < w4.heap.size := by omega)); (try (have xb5 : W2.heap.size ≤ w4.heap.size := by omega)); (try (have xb6 : w3.heap.size ≤ w4.heap.size := by omega)))
        | fail "no arm")
    all_goals
      go_wp2_with fail
      go_meet
      have q1 := HZU.out
      have q2 := HZV.out
      simp at q1 q2
      (try simp at hDu)
      (try simp at hDv)
      refine ovB_pack (z := (m : Int) + 1) hDu hDv rfl ⟨HLU.out, hdu, HVU.out, HLV.out, hdv, HVV.out⟩ ?_ ?_ ?_ ?_ ?_ ?_
      · repeat (first | assumption | refine OvS.drew ?_ | refine OvS.alloc ?_ _ | refine OvS.setCell ?_ ?_ ?_ _ | exact (by first | omega | (dsimp only; omega) | (simp; done) | (simp; omega)) | fail)
      · repeat (first | assumption | refine DBk.far ?_ ?_ _ | refine DBk.alloc ?_ _ | refine DBk.below ?_ hbv ?_ | exact (by first | omega | (dsimp only; omega) | (simp; done) | (simp; omega)) | fail)
      · repeat (first | assumption | refine DBk.far ?_ ?_ _ | refine DBk.alloc ?_ _ | refine DBk.below ?_ hbv ?_ | exact (by first | omega | (dsimp only; omega) | (simp; done) | (simp; omega)) | fail)
      · repeat (first | assumption | refine Boxed.set _ (v := .slice none 0 0) ?_ | exact heap_alloc_at _ _ _ (by first | rfl | (simp; done) | (simp; omega)) | refine boxed_far ?_ ?_ _ | refine Boxed.alloc ?_ _ | refine boxed_below ?_ hbv ?_ | refine boxed_below ?_ hbu ?_ | exact (by first | omega | (dsimp only; omega) | (simp; done) | (simp; omega)) | fail)
      · repeat (first | assumption | refine Boxed.set _ (v := .slice none 0 0) ?_ | exact heap_alloc_at _ _ _ (by first | rfl | (simp; done) | (simp; omega)) | refine boxed_far ?_ ?_ _ | refine Boxed.alloc ?_ _ | refine boxed_below ?_ hbv ?_ | refine boxed_below ?_ hbu ?_ | exact (by first | omega | (dsimp only; omega) | (simp; done) | (simp; omega)) | fail)
      · simp
        omega
  case rest =>
    obtain ⟨gu, gv, bu, bv, u0, v0, rfl, rfl, hI, ⟨k1, k2, k3, k4, k5⟩, hne, hBc⟩ := hcut
    rename World => wc
    clear UL UV b0 hz2 hW2
    have e1 := k1.cell
    obtain ⟨J, hJ⟩ : ∃ J, N = m + J := ⟨N - m, by omega⟩
    have hmk := run_make_mag J (by omega)
    have ej : (J : Int) = (N : Int) - ((m : Int) + 1) + 1 := by omega
    rw [ej] at hmk
    have HJ := Lib.hid hJ
    have hJ1 : 1 ≤ J := by omega
    have hJ2 : J ≤ 1000 := by omega
    clear ej hJ
    go_wp2_with (go_at_call 53; refine (callsIn_wide.1 (down_in Fence.wide 0 trivial rfl _ _ _ _)).mono ?_; rintro e w' ⟨rfl, rfl⟩)
    clear hmk
    have hJ0 := ovJ_start (J := J) (l := nval l) (v := nval v) (s := s) hne hBc k1 k2 k3 k4 k5 ⟨hI.out.1, hI.out.2.1, hI.out.2.2.1⟩ (by have := HJ.out; omega) (by rw [Nat.add_comm, ← HJ.out, ← HL.out]; exact nval_lt hl.1) (by have := canon_ge hm (by intro e; have := HL2.out; rw [e] at this; simp at this); rwa [HL2.out, Nat.add_sub_cancel] at this)
    obtain ⟨W0, hW0⟩ : ∃ W0, ((wc.alloc (.cells (madeCells #[.int .u32 0] J) 40)).alloc (.cells #[.slice (some ⟨wc.heap.size, 0, none⟩) J J] 50)).alloc (.cells #[.slice (some ⟨wc.heap.size, 0, none⟩) J J] 50) = W0 := ⟨_, rfl⟩
    rw [hW0] at hJ0 ⊢
    obtain ⟨hbox, hsz, hJ0⟩ := hJ0
    clear hW0
    refine (wpIn_wide (n := 3)).1 ?_
    refine wpIn_rangeFunc_ownF rfl (by omega) (gf := 81) (lb := #[.pointer (some ⟨wc.heap.size + 1 + 1, 0, none⟩)]) rfl trivial (enters_of Tryz.func81 (by kernel_rfl) rfl)
      (down2_stops Fence.wide (3 - 1) trivial rfl (by omega) (wc.heap.size + 1 + 1) w.heap.size wc.heap.size J J W0 hbox hJ0.blk (Nat.le_refl _) (by omega)) kpQ_t (kpQ_b hJ0.2.2.size (by omega) hJ0.lt) (Below.refl _ _) (fun _ => rfl)
      (fun pre W => OvJ w w1.heap.size (m + 1) gu gv bu bv wc.heap.size (wc.heap.size + 1) N J (nval l * 2 ^ s) (nval v * 2 ^ s) v0 pre W)
      (fun _ _ _ => False)
      (ovJ_own hJ0.2.2.size)
      (fun _ _ _ _ _ hs _ _ => hs)
      hJ0
      (fun x => { tmps := #[Value.slice A N c, Value.slice (some ad) (m + 1) c2, undef, undef, Value.slice none 0 0, Value.slice none 0 0, Value.pointer (some { block := w1.heap.size, off := 0 }), undef, undef, Value.int IntKind.i64 ↑s, Value.pointer (some { block := bu, off := 0 }), Value.pointer (some { block := bv, off := 0 }), Value.pointer (some { block := wc.heap.size + 1, off := 0 }), Value.int IntKind.i64 (x.1.1 : Nat), undef, undef, Value.slice A N c, Value.slice (some ad) (m + 1) c2, Value.int IntKind.i64 (cmpv (nval l) (nval v)), Value.bool (decide (cmpv (nval l) (nval v) < 0)), undef, Value.slice (some ad) (m + 1) c2, Value.int IntKind.i64 (↑m + 1), Value.int IntKind.i64 (↑m + 1), Value.bool false, undef, undef, undef, undef, undef, undef, undef, undef, undef, undef, undef, undef, Value.slice (some ad) (m + 1) c2, Value.int IntKind.i64 (↑m + 1), Value.int IntKind.i64 ↑m, Value.pointer (some (ad.add m)), Value.int IntKind.u32 ↑(dg v m), Value.int IntKind.i64 ↑s, u43, u44, u45, u46, u47, u48, u49, u50, u51, u52, Value.slice A N c, Value.int IntKind.i64 ↑N, Value.int IntKind.i64 (↑m + 1), Value.int IntKind.i64 (↑N - (↑m + 1)), Value.int IntKind.i64 (↑N - (↑m + 1) + 1), Value.slice (some { block := wc.heap.size, off := 0 }) J J, Value.slice (some { block := wc.heap.size, off := 0 }) J J, Value.func (Fn.func 81) #[] #[Value.pointer (some { block := wc.heap.size + 1 + 1, off := 0 })], Value.int IntKind.i64 (x.1.1 : Nat), Value.int IntKind.u32 (x.2 : Nat), undef, undef, undef, undef, undef, undef, undef, undef, undef, undef, undef, undef, undef, undef, undef, undef, undef, undef, undef, undef, undef, undef, undef, undef, undef, undef, undef, undef, undef, undef, undef, undef, undef, undef, undef, undef, undef, undef, undef, undef, undef, undef], defers := [] }) ?assign ?body ?done ?stop
    case assign =>
      intro l x W K hK
      gi_wp2
      exact hK
    case body =>
      rintro ll pre x W ⟨⟨st, ne⟩, ⟨uo, qo, d1, d2, hl, inv⟩, hBW⟩ _
      have inv := Lib.hid inv
      have hx := x.1.2
      have hmx : Tryz.prog.follows .mixedOrders = true := by kernel_rfl
      have HV : Hid (nval v0 = nval v * 2 ^ s ∧ nval v * 2 ^ s < 4294967296 ^ (m + 1) ∧ N + 1 = J + (m + 1)) := ⟨hI.out.2.2.2.2.2, hfit.out.2, by have := HJ.out; omega⟩
      have CALL := Lib.hid (ovJ_call x.1 st ne d1 ⟨hl.out.1, hl.out.2.1⟩ hI.out.2.2.2.1 hI.out.2.2.2.2.1 (by have := HJ.out; omega) (by omega))
      have e1 := st.1.cell
      have e2 := st.2.2.1.cell
      have e3 := st.2.2.2.1.cell
      have e4 := st.2.2.2.2.1.cell
      have hkN : ((x.1.1 : Nat) : Int) + ((m : Int) + 1) + 1 ≤ (N : Int) + 1 := by have := HJ.out; omega
      have w1' : IntKind.i64.wrap ((x.1.1 : Int) + ((m : Int) + 1)) = (x.1.1 : Int) + ((m : Int) + 1) := by rw [IntKind.wrap_i64]; omega
      have w2' : IntKind.i64.wrap ((x.1.1 : Int) + ((m : Int) + 1) + 1) = (x.1.1 : Int) + ((m : Int) + 1) + 1 := by rw [IntKind.wrap_i64]; omega
      have w3' : ((x.1.1 : Int) + ((m : Int) + 1) + 1).toNat = x.1.1 + (m + 1) + 1 := by omega
      have w4' : (0 : Int) ≤ (x.1.1 : Int) + ((m : Int) + 1) + 1 := by omega
      have w5' : ¬ N + 1 = x.1.1 := by omega
      have w6' : x.1.1 ≤ x.1.1 + (m + 1) + 1 := by omega
      gi_wp2
      refine region_round hmx rfl ?_
      refine wpAnyIn_take (i := 1) (v := ?_) rfl rfl (by kernel_rfl) (by kernel_rfl) (by kernel_rfl) (fun _ _ _ h => h) ⟨Or.inl ⟨by rfl, ?_⟩, fun _ => rfl⟩ ?_
      rotate_left 1
      · (intro w; go_simp; try (with_reducible rfl))
      refine wpAnyIn_take (i := 3) (v := ?_) rfl rfl (by kernel_rfl) (by kernel_rfl) (by kernel_rfl) (fun _ _ _ h => h) ⟨Or.inl ⟨by rfl, ?_⟩, fun _ => rfl⟩ ?_
      rotate_left 1
      · (intro w; go_simp; try (with_reducible rfl))
      refine wpAnyIn_take (i := 4) (v := ?_) rfl rfl (by kernel_rfl) (by kernel_rfl) (by kernel_rfl) (fun _ _ _ h => h) ⟨Or.inl ⟨by rfl, ?_⟩, fun _ => rfl⟩ ?_
      rotate_left 1
      · (intro w; go_simp; try (with_reducible rfl))
      refine wpAnyIn_ready (rs := [0, 2, 5, 9]) (by kernel_rfl) (by simp) ?_
      refine AllReadyIn.cons rfl (fun K hK => ?_) (AllReadyIn.cons rfl (fun K hK => ?_) (AllReadyIn.cons rfl (fun K hK => ?_) (AllReadyIn.cons rfl (fun K hK => ?_) AllReadyIn.nil)))
      · go_simp; refine hK _ _ ?_; clear hK K
        refine wpAnyIn_ready (rs := [2, 5, 9]) (by kernel_rfl) (by simp) ?_
        refine AllReadyIn.cons rfl (fun K hK => ?_) (AllReadyIn.cons rfl (fun K hK => ?_) (AllReadyIn.cons rfl (fun K hK => ?_) AllReadyIn.nil))
        · go_simp; refine hK _ _ ?_; clear hK K
          refine wpAnyIn_ready (rs := [5, 9]) (by kernel_rfl) (by simp) ?_
          refine AllReadyIn.cons rfl (fun K hK => ?_) (AllReadyIn.cons rfl (fun K hK => ?_) AllReadyIn.nil)
          · go_simp; refine hK _ _ ?_; clear hK K
            refine wpAnyIn_take (i := 6) (v := ?_) rfl rfl (by kernel_rfl) (by kernel_rfl) (by kernel_rfl) (fun _ _ _ h => h) ⟨Or.inl ⟨by rfl, ?_⟩, fun _ => rfl⟩ ?_
            rotate_left 1
            · (intro w; go_simp; try (with_reducible rfl))
            refine wpAnyIn_take (i := 7) (v := ?_) rfl rfl (by kernel_rfl) (by kernel_rfl) (by kernel_rfl) (fun _ _ _ h => h) ⟨Or.inl ⟨by rfl, ?_⟩, fun _ => rfl⟩ ?_
            rotate_left 1
            · (intro w; go_simp; try (with_reducible rfl))
            refine wpAnyIn_take (i := 8) (v := ?_) rfl rfl (by kernel_rfl) (by kernel_rfl) (by kernel_rfl) (fun _ _ _ h => h) ⟨Or.inl ⟨by rfl, ?_⟩, fun _ => rfl⟩ ?_
            rotate_left 1
            · (intro w; go_simp; try (with_reducible rfl))
            refine wpAnyIn_ready (rs := [9]) (by kernel_rfl) (by simp) ?_
            refine AllReadyIn.cons rfl (fun K hK => ?_) AllReadyIn.nil
            go_simp; refine hK _ _ ?_; clear hK K
            refine wpAnyIn_ready (rs := [10]) (by kernel_rfl) (by simp) ?_
            refine AllReadyIn.cons rfl (fun K hK => ?_) AllReadyIn.nil
            go_simp; refine ⟨trivial, ?_⟩; gi_at_call 54; refine (callsIn_wide.2 (CALL.out _ _ _ (by omega))).mono ?_; rintro e w' ⟨g, u', rfl, hg, hul, hud, hU', hgr, hS1, hS2⟩; obtain ⟨a1, a2, a3, a4⟩ := ov_after (k := x.1.1) st ne d2 (by have := hl.out.2.2.1; omega) hgr; have HUL := Lib.hid hul; have HS1 := Lib.hid hS1; have HS2 := Lib.hid hS2; clear hul hS1 hS2; refine hK _ _ ?_; clear hK K
            refine wpAnyIn_take (i := 11) (v := ?_) rfl rfl (by kernel_rfl) (by kernel_rfl) (by kernel_rfl) (fun _ _ _ h => h) ⟨Or.inl ⟨by rfl, ?_⟩, fun _ => rfl⟩ ?_
            rotate_left 1
            · (intro w; go_simp; try (with_reducible rfl))
            refine wpAnyIn_ready (rs := [12]) (by kernel_rfl) (by simp) ?_
            refine AllReadyIn.cons rfl (fun K hK => ?_) AllReadyIn.nil
            go_simp; refine hK _ _ ?_; clear hK K
            refine wpAnyIn_done (by kernel_rfl) ?_ _
            gi_wp2
            exact ovR x st ne d1 d2 hl.out inv.out hBW hgr hg HUL.out hud hU' HS1.out HS2.out HV.out
          · go_simp; refine hK _ _ ?_; clear hK K
            refine wpAnyIn_ready (rs := [5]) (by kernel_rfl) (by simp) ?_
            refine AllReadyIn.cons rfl (fun K hK => ?_) AllReadyIn.nil
            go_simp; refine hK _ _ ?_; clear hK K
            refine wpAnyIn_take (i := 6) (v := ?_) rfl rfl (by kernel_rfl) (by kernel_rfl) (by kernel_rfl) (fun _ _ _ h => h) ⟨Or.inl ⟨by rfl, ?_⟩, fun _ => rfl⟩ ?_
            rotate_left 1
            · (intro w; go_simp; try (with_reducible rfl))
            refine wpAnyIn_take (i := 7) (v := ?_) rfl rfl (by kernel_rfl) (by kernel_rfl) (by kernel_rfl) (fun _ _ _ h => h) ⟨Or.inl ⟨by rfl, ?_⟩, fun _ => rfl⟩ ?_
            rotate_left 1
            · (intro w; go_simp; try (with_reducible rfl))
            refine wpAnyIn_take (i := 8) (v := ?_) rfl rfl (by kernel_rfl) (by kernel_rfl) (by kernel_rfl) (fun _ _ _ h => h) ⟨Or.inl ⟨by rfl, ?_⟩, fun _ => rfl⟩ ?_
            rotate_left 1
            · (intro w; go_simp; try (with_reducible rfl))
            refine wpAnyIn_ready (rs := [10]) (by kernel_rfl) (by simp) ?_
            refine AllReadyIn.cons rfl (fun K hK => ?_) AllReadyIn.nil
            go_simp; refine ⟨trivial, ?_⟩; gi_at_call 54; refine (callsIn_wide.2 (CALL.out _ _ _ (by omega))).mono ?_; rintro e w' ⟨g, u', rfl, hg, hul, hud, hU', hgr, hS1, hS2⟩; obtain ⟨a1, a2, a3, a4⟩ := ov_after (k := x.1.1) st ne d2 (by have := hl.out.2.2.1; omega) hgr; have HUL := Lib.hid hul; have HS1 := Lib.hid hS1; have HS2 := Lib.hid hS2; clear hul hS1 hS2; refine hK _ _ ?_; clear hK K
            refine wpAnyIn_take (i := 11) (v := ?_) rfl rfl (by kernel_rfl) (by kernel_rfl) (by kernel_rfl) (fun _ _ _ h => h) ⟨Or.inl ⟨by rfl, ?_⟩, fun _ => rfl⟩ ?_
            rotate_left 1
            · (intro w; go_simp; try (with_reducible rfl))
            refine wpAnyIn_ready (rs := [12]) (by kernel_rfl) (by simp) ?_
            refine AllReadyIn.cons rfl (fun K hK => ?_) AllReadyIn.nil
            go_simp; refine hK _ _ ?_; clear hK K
            refine wpAnyIn_done (by kernel_rfl) ?_ _
            gi_wp2
            exact ovR x st ne d1 d2 hl.out inv.out hBW hgr hg HUL.out hud hU' HS1.out HS2.out HV.out
        · go_simp; refine hK _ _ ?_; clear hK K
          refine wpAnyIn_take (i := 6) (v := ?_) rfl rfl (by kernel_rfl) (by kernel_rfl) (by kernel_rfl) (fun _ _ _ h => h) ⟨Or.inl ⟨by rfl, ?_⟩, fun _ => rfl⟩ ?_
          rotate_left 1
          · (intro w; go_simp; try (with_reducible rfl))
          refine wpAnyIn_take (i := 7) (v := ?_) rfl rfl (by kernel_rfl) (by kernel_rfl) (by kernel_rfl) (fun _ _ _ h => h) ⟨Or.inl ⟨by rfl, ?_⟩, fun _ => rfl⟩ ?_
          rotate_left 1
          · (intro w; go_simp; try (with_reducible rfl))
          refine wpAnyIn_ready (rs := [2, 9]) (by kernel_rfl) (by simp) ?_
          refine AllReadyIn.cons rfl (fun K hK => ?_) (AllReadyIn.cons rfl (fun K hK => ?_) AllReadyIn.nil)
          · go_simp; refine hK _ _ ?_; clear hK K
            refine wpAnyIn_take (i := 8) (v := ?_) rfl rfl (by kernel_rfl) (by kernel_rfl) (by kernel_rfl) (fun _ _ _ h => h) ⟨Or.inl ⟨by rfl, ?_⟩, fun _ => rfl⟩ ?_
            rotate_left 1
            · (intro w; go_simp; try (with_reducible rfl))
            refine wpAnyIn_ready (rs := [9]) (by kernel_rfl) (by simp) ?_
            refine AllReadyIn.cons rfl (fun K hK => ?_) AllReadyIn.nil
            go_simp; refine hK _ _ ?_; clear hK K
            refine wpAnyIn_ready (rs := [10]) (by kernel_rfl) (by simp) ?_
            refine AllReadyIn.cons rfl (fun K hK => ?_) AllReadyIn.nil
            go_simp; refine ⟨trivial, ?_⟩; gi_at_call 54; refine (callsIn_wide.2 (CALL.out _ _ _ (by omega))).mono ?_; rintro e w' ⟨g, u', rfl, hg, hul, hud, hU', hgr, hS1, hS2⟩; obtain ⟨a1, a2, a3, a4⟩ := ov_after (k := x.1.1) st ne d2 (by have := hl.out.2.2.1; omega) hgr; have HUL := Lib.hid hul; have HS1 := Lib.hid hS1; have HS2 := Lib.hid hS2; clear hul hS1 hS2; refine hK _ _ ?_; clear hK K
            refine wpAnyIn_take (i := 11) (v := ?_) rfl rfl (by kernel_rfl) (by kernel_rfl) (by kernel_rfl) (fun _ _ _ h => h) ⟨Or.inl ⟨by rfl, ?_⟩, fun _ => rfl⟩ ?_
            rotate_left 1
            · (intro w; go_simp; try (with_reducible rfl))
            refine wpAnyIn_ready (rs := [12]) (by kernel_rfl) (by simp) ?_
            refine AllReadyIn.cons rfl (fun K hK => ?_) AllReadyIn.nil
            go_simp; refine hK _ _ ?_; clear hK K
            refine wpAnyIn_done (by kernel_rfl) ?_ _
            gi_wp2
            exact ovR x st ne d1 d2 hl.out inv.out hBW hgr hg HUL.out hud hU' HS1.out HS2.out HV.out
          · go_simp; refine hK _ _ ?_; clear hK K
            refine wpAnyIn_ready (rs := [2]) (by kernel_rfl) (by simp) ?_
            refine AllReadyIn.cons rfl (fun K hK => ?_) AllReadyIn.nil
            go_simp; refine hK _ _ ?_; clear hK K
            refine wpAnyIn_take (i := 8) (v := ?_) rfl rfl (by kernel_rfl) (by kernel_rfl) (by kernel_rfl) (fun _ _ _ h => h) ⟨Or.inl ⟨by rfl, ?_⟩, fun _ => rfl⟩ ?_
            rotate_left 1
            · (intro w; go_simp; try (with_reducible rfl))
            refine wpAnyIn_ready (rs := [10]) (by kernel_rfl) (by simp) ?_
            refine AllReadyIn.cons rfl (fun K hK => ?_) AllReadyIn.nil
            go_simp; refine ⟨trivial, ?_⟩; gi_at_call 54; refine (callsIn_wide.2 (CALL.out _ _ _ (by omega))).mono ?_; rintro e w' ⟨g, u', rfl, hg, hul, hud, hU', hgr, hS1, hS2⟩; obtain ⟨a1, a2, a3, a4⟩ := ov_after (k := x.1.1) st ne d2 (by have := hl.out.2.2.1; omega) hgr; have HUL := Lib.hid hul; have HS1 := Lib.hid hS1; have HS2 := Lib.hid hS2; clear hul hS1 hS2; refine hK _ _ ?_; clear hK K
            refine wpAnyIn_take (i := 11) (v := ?_) rfl rfl (by kernel_rfl) (by kernel_rfl) (by kernel_rfl) (fun _ _ _ h => h) ⟨Or.inl ⟨by rfl, ?_⟩, fun _ => rfl⟩ ?_
            rotate_left 1
            · (intro w; go_simp; try (with_reducible rfl))
            refine wpAnyIn_ready (rs := [12]) (by kernel_rfl) (by simp) ?_
            refine AllReadyIn.cons rfl (fun K hK => ?_) AllReadyIn.nil
            go_simp; refine hK _ _ ?_; clear hK K
            refine wpAnyIn_done (by kernel_rfl) ?_ _
            gi_wp2
            exact ovR x st ne d1 d2 hl.out inv.out hBW hgr hg HUL.out hud hU' HS1.out HS2.out HV.out
        · go_simp; refine hK _ _ ?_; clear hK K
          refine wpAnyIn_ready (rs := [2, 5]) (by kernel_rfl) (by simp) ?_
          refine AllReadyIn.cons rfl (fun K hK => ?_) (AllReadyIn.cons rfl (fun K hK => ?_) AllReadyIn.nil)
          · go_simp; refine hK _ _ ?_; clear hK K
            refine wpAnyIn_ready (rs := [5]) (by kernel_rfl) (by simp) ?_
            refine AllReadyIn.cons rfl (fun K hK => ?_) AllReadyIn.nil
            go_simp; refine hK _ _ ?_; clear hK K
            refine wpAnyIn_take (i := 6) (v := ?_) rfl rfl (by kernel_rfl) (by kernel_rfl) (by kernel_rfl) (fun _ _ _ h => h) ⟨Or.inl ⟨by rfl, ?_⟩, fun _ => rfl⟩ ?_
            rotate_left 1
            · (intro w; go_simp; try (with_reducible rfl))
            refine wpAnyIn_take (i := 7) (v := ?_) rfl rfl (by kernel_rfl) (by kernel_rfl) (by kernel_rfl) (fun _ _ _ h => h) ⟨Or.inl ⟨by rfl, ?_⟩, fun _ => rfl⟩ ?_
            rotate_left 1
            · (intro w; go_simp; try (with_reducible rfl))
            refine wpAnyIn_take (i := 8) (v := ?_) rfl rfl (by kernel_rfl) (by kernel_rfl) (by kernel_rfl) (fun _ _ _ h => h) ⟨Or.inl ⟨by rfl, ?_⟩, fun _ => rfl⟩ ?_
            rotate_left 1
            · (intro w; go_simp; try (with_reducible rfl))
            refine wpAnyIn_ready (rs := [10]) (by kernel_rfl) (by simp) ?_
            refine AllReadyIn.cons rfl (fun K hK => ?_) AllReadyIn.nil
            go_simp; refine ⟨trivial, ?_⟩; gi_at_call 54; refine (callsIn_wide.2 (CALL.out _ _ _ (by omega))).mono ?_; rintro e w' ⟨g, u', rfl, hg, hul, hud, hU', hgr, hS1, hS2⟩; obtain ⟨a1, a2, a3, a4⟩ := ov_after (k := x.1.1) st ne d2 (by have := hl.out.2.2.1; omega) hgr; have HUL := Lib.hid hul; have HS1 := Lib.hid hS1; have HS2 := Lib.hid hS2; clear hul hS1 hS2; refine hK _ _ ?_; clear hK K
            refine wpAnyIn_take (i := 11) (v := ?_) rfl rfl (by kernel_rfl) (by kernel_rfl) (by kernel_rfl) (fun _ _ _ h => h) ⟨Or.inl ⟨by rfl, ?_⟩, fun _ => rfl⟩ ?_
            rotate_left 1
            · (intro w; go_simp; try (with_reducible rfl))
            refine wpAnyIn_ready (rs := [12]) (by kernel_rfl) (by simp) ?_
            refine AllReadyIn.cons rfl (fun K hK => ?_) AllReadyIn.nil
            go_simp; refine hK _ _ ?_; clear hK K
            refine wpAnyIn_done (by kernel_rfl) ?_ _
            gi_wp2
            exact ovR x st ne d1 d2 hl.out inv.out hBW hgr hg HUL.out hud hU' HS1.out HS2.out HV.out
          · go_simp; refine hK _ _ ?_; clear hK K
            refine wpAnyIn_take (i := 6) (v := ?_) rfl rfl (by kernel_rfl) (by kernel_rfl) (by kernel_rfl) (fun _ _ _ h => h) ⟨Or.inl ⟨by rfl, ?_⟩, fun _ => rfl⟩ ?_
            rotate_left 1
            · (intro w; go_simp; try (with_reducible rfl))
            refine wpAnyIn_take (i := 7) (v := ?_) rfl rfl (by kernel_rfl) (by kernel_rfl) (by kernel_rfl) (fun _ _ _ h => h) ⟨Or.inl ⟨by rfl, ?_⟩, fun _ => rfl⟩ ?_
            rotate_left 1
            · (intro w; go_simp; try (with_reducible rfl))
            refine wpAnyIn_ready (rs := [2]) (by kernel_rfl) (by simp) ?_
            refine AllReadyIn.cons rfl (fun K hK => ?_) AllReadyIn.nil
            go_simp; refine hK _ _ ?_; clear hK K
            refine wpAnyIn_take (i := 8) (v := ?_) rfl rfl (by kernel_rfl) (by kernel_rfl) (by kernel_rfl) (fun _ _ _ h => h) ⟨Or.inl ⟨by rfl, ?_⟩, fun _ => rfl⟩ ?_
            rotate_left 1
            · (intro w; go_simp; try (with_reducible rfl))
            refine wpAnyIn_ready (rs := [10]) (by kernel_rfl) (by simp) ?_
            refine AllReadyIn.cons rfl (fun K hK => ?_) AllReadyIn.nil
            go_simp; refine ⟨trivial, ?_⟩; gi_at_call 54; refine (callsIn_wide.2 (CALL.out _ _ _ (by omega))).mono ?_; rintro e w' ⟨g, u', rfl, hg, hul, hud, hU', hgr, hS1, hS2⟩; obtain ⟨a1, a2, a3, a4⟩ := ov_after (k := x.1.1) st ne d2 (by have := hl.out.2.2.1; omega) hgr; have HUL := Lib.hid hul; have HS1 := Lib.hid hS1; have HS2 := Lib.hid hS2; clear hul hS1 hS2; refine hK _ _ ?_; clear hK K
            refine wpAnyIn_take (i := 11) (v := ?_) rfl rfl (by kernel_rfl) (by kernel_rfl) (by kernel_rfl) (fun _ _ _ h => h) ⟨Or.inl ⟨by rfl, ?_⟩, fun _ => rfl⟩ ?_
            rotate_left 1
            · (intro w; go_simp; try (with_reducible rfl))
            refine wpAnyIn_ready (rs := [12]) (by kernel_rfl) (by simp) ?_
            refine AllReadyIn.cons rfl (fun K hK => ?_) AllReadyIn.nil
            go_simp; refine hK _ _ ?_; clear hK K
            refine wpAnyIn_done (by kernel_rfl) ?_ _
            gi_wp2
            exact ovR x st ne d1 d2 hl.out inv.out hBW hgr hg HUL.out hud hU' HS1.out HS2.out HV.out
      · go_simp; refine hK _ _ ?_; clear hK K
        refine wpAnyIn_ready (rs := [0, 5, 9]) (by kernel_rfl) (by simp) ?_
        refine AllReadyIn.cons rfl (fun K hK => ?_) (AllReadyIn.cons rfl (fun K hK => ?_) (AllReadyIn.cons rfl (fun K hK => ?_) AllReadyIn.nil))
        · go_simp; refine hK _ _ ?_; clear hK K
          refine wpAnyIn_ready (rs := [5, 9]) (by kernel_rfl) (by simp) ?_
          refine AllReadyIn.cons rfl (fun K hK => ?_) (AllReadyIn.cons rfl (fun K hK => ?_) AllReadyIn.nil)
          · go_simp; refine hK _ _ ?_; clear hK K
            refine wpAnyIn_take (i := 6) (v := ?_) rfl rfl (by kernel_rfl) (by kernel_rfl) (by kernel_rfl) (fun _ _ _ h => h) ⟨Or.inl ⟨by rfl, ?_⟩, fun _ => rfl⟩ ?_
            rotate_left 1
            · (intro w; go_simp; try (with_reducible rfl))
            refine wpAnyIn_take (i := 7) (v := ?_) rfl rfl (by kernel_rfl) (by kernel_rfl) (by kernel_rfl) (fun _ _ _ h => h) ⟨Or.inl ⟨by rfl, ?_⟩, fun _ => rfl⟩ ?_
            rotate_left 1
            · (intro w; go_simp; try (with_reducible rfl))
            refine wpAnyIn_take (i := 8) (v := ?_) rfl rfl (by kernel_rfl) (by kernel_rfl) (by kernel_rfl) (fun _ _ _ h => h) ⟨Or.inl ⟨by rfl, ?_⟩, fun _ => rfl⟩ ?_
            rotate_left 1
            · (intro w; go_simp; try (with_reducible rfl))
            refine wpAnyIn_ready (rs := [9]) (by kernel_rfl) (by simp) ?_
            refine AllReadyIn.cons rfl (fun K hK => ?_) AllReadyIn.nil
            go_simp; refine hK _ _ ?_; clear hK K
            refine wpAnyIn_ready (rs := [10]) (by kernel_rfl) (by simp) ?_
            refine AllReadyIn.cons rfl (fun K hK => ?_) AllReadyIn.nil
            go_simp; refine ⟨trivial, ?_⟩; gi_at_call 54; refine (callsIn_wide.2 (CALL.out _ _ _ (by omega))).mono ?_; rintro e w' ⟨g, u', rfl, hg, hul, hud, hU', hgr, hS1, hS2⟩; obtain ⟨a1, a2, a3, a4⟩ := ov_after (k := x.1.1) st ne d2 (by have := hl.out.2.2.1; omega) hgr; have HUL := Lib.hid hul; have HS1 := Lib.hid hS1; have HS2 := Lib.hid hS2; clear hul hS1 hS2; refine hK _ _ ?_; clear hK K
            refine wpAnyIn_take (i := 11) (v := ?_) rfl rfl (by kernel_rfl) (by kernel_rfl) (by kernel_rfl) (fun _ _ _ h => h) ⟨Or.inl ⟨by rfl, ?_⟩, fun _ => rfl⟩ ?_
            rotate_left 1
            · (intro w; go_simp; try (with_reducible rfl))
            refine wpAnyIn_ready (rs := [12]) (by kernel_rfl) (by simp) ?_
            refine AllReadyIn.cons rfl (fun K hK => ?_) AllReadyIn.nil
            go_simp; refine hK _ _ ?_; clear hK K
            refine wpAnyIn_done (by kernel_rfl) ?_ _
            gi_wp2
            exact ovR x st ne d1 d2 hl.out inv.out hBW hgr hg HUL.out hud hU' HS1.out HS2.out HV.out
          · go_simp; refine hK _ _ ?_; clear hK K
            refine wpAnyIn_ready (rs := [5]) (by kernel_rfl) (by simp) ?_
            refine AllReadyIn.cons rfl (fun K hK => ?_) AllReadyIn.nil
            go_simp; refine hK _ _ ?_; clear hK K
            refine wpAnyIn_take (i := 6) (v := ?_) rfl rfl (by kernel_rfl) (by kernel_rfl) (by kernel_rfl) (fun _ _ _ h => h) ⟨Or.inl ⟨by rfl, ?_⟩, fun _ => rfl⟩ ?_
            rotate_left 1
            · (intro w; go_simp; try (with_reducible rfl))
            refine wpAnyIn_take (i := 7) (v := ?_) rfl rfl (by kernel_rfl) (by kernel_rfl) (by kernel_rfl) (fun _ _ _ h => h) ⟨Or.inl ⟨by rfl, ?_⟩, fun _ => rfl⟩ ?_
            rotate_left 1
            · (intro w; go_simp; try (with_reducible rfl))
            refine wpAnyIn_take (i := 8) (v := ?_) rfl rfl (by kernel_rfl) (by kernel_rfl) (by kernel_rfl) (fun _ _ _ h => h) ⟨Or.inl ⟨by rfl, ?_⟩, fun _ => rfl⟩ ?_
            rotate_left 1
            · (intro w; go_simp; try (with_reducible rfl))
            refine wpAnyIn_ready (rs := [10]) (by kernel_rfl) (by simp) ?_
            refine AllReadyIn.cons rfl (fun K hK => ?_) AllReadyIn.nil
            go_simp; refine ⟨trivial, ?_⟩; gi_at_call 54; refine (callsIn_wide.2 (CALL.out _ _ _ (by omega))).mono ?_; rintro e w' ⟨g, u', rfl, hg, hul, hud, hU', hgr, hS1, hS2⟩; obtain ⟨a1, a2, a3, a4⟩ := ov_after (k := x.1.1) st ne d2 (by have := hl.out.2.2.1; omega) hgr; have HUL := Lib.hid hul; have HS1 := Lib.hid hS1; have HS2 := Lib.hid hS2; clear hul hS1 hS2; refine hK _ _ ?_; clear hK K
            refine wpAnyIn_take (i := 11) (v := ?_) rfl rfl (by kernel_rfl) (by kernel_rfl) (by kernel_rfl) (fun _ _ _ h => h) ⟨Or.inl ⟨by rfl, ?_⟩, fun _ => rfl⟩ ?_
            rotate_left 1
            · (intro w; go_simp; try (with_reducible rfl))
            refine wpAnyIn_ready (rs := [12]) (by kernel_rfl) (by simp) ?_
            refine AllReadyIn.cons rfl (fun K hK => ?_) AllReadyIn.nil
            go_simp; refine hK _ _ ?_; clear hK K
            refine wpAnyIn_done (by kernel_rfl) ?_ _
            gi_wp2
            exact ovR x st ne d1 d2 hl.out inv.out hBW hgr hg HUL.out hud hU' HS1.out HS2.out HV.out
        · go_simp; refine hK _ _ ?_; clear hK K
          refine wpAnyIn_take (i := 6) (v := ?_) rfl rfl (by kernel_rfl) (by kernel_rfl) (by kernel_rfl) (fun _ _ _ h => h) ⟨Or.inl ⟨by rfl, ?_⟩, fun _ => rfl⟩ ?_
          rotate_left 1
          · (intro w; go_simp; try (with_reducible rfl))
          refine wpAnyIn_take (i := 7) (v := ?_) rfl rfl (by kernel_rfl) (by kernel_rfl) (by kernel_rfl) (fun _ _ _ h => h) ⟨Or.inl ⟨by rfl, ?_⟩, fun _ => rfl⟩ ?_
          rotate_left 1
          · (intro w; go_simp; try (with_reducible rfl))
          refine wpAnyIn_take (i := 8) (v := ?_) rfl rfl (by kernel_rfl) (by kernel_rfl) (by kernel_rfl) (fun _ _ _ h => h) ⟨Or.inl ⟨by rfl, ?_⟩, fun _ => rfl⟩ ?_
          rotate_left 1
          · (intro w; go_simp; try (with_reducible rfl))
          refine wpAnyIn_ready (rs := [0, 9]) (by kernel_rfl) (by simp) ?_
          refine AllReadyIn.cons rfl (fun K hK => ?_) (AllReadyIn.cons rfl (fun K hK => ?_) AllReadyIn.nil)
          · go_simp; refine hK _ _ ?_; clear hK K
            refine wpAnyIn_ready (rs := [9]) (by kernel_rfl) (by simp) ?_
            refine AllReadyIn.cons rfl (fun K hK => ?_) AllReadyIn.nil
            go_simp; refine hK _ _ ?_; clear hK K
            refine wpAnyIn_ready (rs := [10]) (by kernel_rfl) (by simp) ?_
            refine AllReadyIn.cons rfl (fun K hK => ?_) AllReadyIn.nil
            go_simp; refine ⟨trivial, ?_⟩; gi_at_call 54; refine (callsIn_wide.2 (CALL.out _ _ _ (by omega))).mono ?_; rintro e w' ⟨g, u', rfl, hg, hul, hud, hU', hgr, hS1, hS2⟩; obtain ⟨a1, a2, a3, a4⟩ := ov_after (k := x.1.1) st ne d2 (by have := hl.out.2.2.1; omega) hgr; have HUL := Lib.hid hul; have HS1 := Lib.hid hS1; have HS2 := Lib.hid hS2; clear hul hS1 hS2; refine hK _ _ ?_; clear hK K
            refine wpAnyIn_take (i := 11) (v := ?_) rfl rfl (by kernel_rfl) (by kernel_rfl) (by kernel_rfl) (fun _ _ _ h => h) ⟨Or.inl ⟨by rfl, ?_⟩, fun _ => rfl⟩ ?_
            rotate_left 1
            · (intro w; go_simp; try (with_reducible rfl))
            refine wpAnyIn_ready (rs := [12]) (by kernel_rfl) (by simp) ?_
            refine AllReadyIn.cons rfl (fun K hK => ?_) AllReadyIn.nil
            go_simp; refine hK _ _ ?_; clear hK K
            refine wpAnyIn_done (by kernel_rfl) ?_ _
            gi_wp2
            exact ovR x st ne d1 d2 hl.out inv.out hBW hgr hg HUL.out hud hU' HS1.out HS2.out HV.out
          · go_simp; refine hK _ _ ?_; clear hK K
            refine wpAnyIn_ready (rs := [0, 10]) (by kernel_rfl) (by simp) ?_
            refine AllReadyIn.cons rfl (fun K hK => ?_) (AllReadyIn.cons rfl (fun K hK => ?_) AllReadyIn.nil)
            · go_simp; refine hK _ _ ?_; clear hK K
              refine wpAnyIn_ready (rs := [10]) (by kernel_rfl) (by simp) ?_
              refine AllReadyIn.cons rfl (fun K hK => ?_) AllReadyIn.nil
              go_simp; refine ⟨trivial, ?_⟩; gi_at_call 54; refine (callsIn_wide.2 (CALL.out _ _ _ (by omega))).mono ?_; rintro e w' ⟨g, u', rfl, hg, hul, hud, hU', hgr, hS1, hS2⟩; obtain ⟨a1, a2, a3, a4⟩ := ov_after (k := x.1.1) st ne d2 (by have := hl.out.2.2.1; omega) hgr; have HUL := Lib.hid hul; have HS1 := Lib.hid hS1; have HS2 := Lib.hid hS2; clear hul hS1 hS2; refine hK _ _ ?_; clear hK K
              refine wpAnyIn_take (i := 11) (v := ?_) rfl rfl (by kernel_rfl) (by kernel_rfl) (by kernel_rfl) (fun _ _ _ h => h) ⟨Or.inl ⟨by rfl, ?_⟩, fun _ => rfl⟩ ?_
              rotate_left 1
              · (intro w; go_simp; try (with_reducible rfl))
              refine wpAnyIn_ready (rs := [12]) (by kernel_rfl) (by simp) ?_
              refine AllReadyIn.cons rfl (fun K hK => ?_) AllReadyIn.nil
              go_simp; refine hK _ _ ?_; clear hK K
              refine wpAnyIn_done (by kernel_rfl) ?_ _
              gi_wp2
              exact ovR x st ne d1 d2 hl.out inv.out hBW hgr hg HUL.out hud hU' HS1.out HS2.out HV.out
            · go_simp; refine ⟨trivial, ?_⟩; gi_at_call 54; refine (callsIn_wide.2 (CALL.out _ _ _ (by omega))).mono ?_; rintro e w' ⟨g, u', rfl, hg, hul, hud, hU', hgr, hS1, hS2⟩; obtain ⟨a1, a2, a3, a4⟩ := ov_after (k := x.1.1) st ne d2 (by have := hl.out.2.2.1; omega) hgr; have HUL := Lib.hid hul; have HS1 := Lib.hid hS1; have HS2 := Lib.hid hS2; clear hul hS1 hS2; refine hK _ _ ?_; clear hK K
              refine wpAnyIn_ready (rs := [0]) (by kernel_rfl) (by simp) ?_
              refine AllReadyIn.cons rfl (fun K hK => ?_) AllReadyIn.nil
              go_simp; refine hK _ _ ?_; clear hK K
              refine wpAnyIn_take (i := 11) (v := ?_) rfl rfl (by kernel_rfl) (by kernel_rfl) (by kernel_rfl) (fun _ _ _ h => h) ⟨Or.inl ⟨by rfl, ?_⟩, fun _ => rfl⟩ ?_
              rotate_left 1
              · (intro w; go_simp; try (with_reducible rfl))
              refine wpAnyIn_ready (rs := [12]) (by kernel_rfl) (by simp) ?_
              refine AllReadyIn.cons rfl (fun K hK => ?_) AllReadyIn.nil
              go_simp; refine hK _ _ ?_; clear hK K
              refine wpAnyIn_done (by kernel_rfl) ?_ _
              gi_wp2
              exact ovR x st ne d1 d2 hl.out inv.out hBW hgr hg HUL.out hud hU' HS1.out HS2.out HV.out
        · go_simp; refine hK _ _ ?_; clear hK K
          refine wpAnyIn_ready (rs := [0, 5]) (by kernel_rfl) (by simp) ?_
          refine AllReadyIn.cons rfl (fun K hK => ?_) (AllReadyIn.cons rfl (fun K hK => ?_) AllReadyIn.nil)
          · go_simp; refine hK _ _ ?_; clear hK K
            refine wpAnyIn_ready (rs := [5]) (by kernel_rfl) (by simp) ?_
            refine AllReadyIn.cons rfl (fun K hK => ?_) AllReadyIn.nil
            go_simp; refine hK _ _ ?_; clear hK K
            refine wpAnyIn_take (i := 6) (v := ?_) rfl rfl (by kernel_rfl) (by kernel_rfl) (by kernel_rfl) (fun _ _ _ h => h) ⟨Or.inl ⟨by rfl, ?_⟩, fun _ => rfl⟩ ?_
            rotate_left 1
            · (intro w; go_simp; try (with_reducible rfl))
            refine wpAnyIn_take (i := 7) (v := ?_) rfl rfl (by kernel_rfl) (by kernel_rfl) (by kernel_rfl) (fun _ _ _ h => h) ⟨Or.inl ⟨by rfl, ?_⟩, fun _ => rfl⟩ ?_
            rotate_left 1
            · (intro w; go_simp; try (with_reducible rfl))
            refine wpAnyIn_take (i := 8) (v := ?_) rfl rfl (by kernel_rfl) (by kernel_rfl) (by kernel_rfl) (fun _ _ _ h => h) ⟨Or.inl ⟨by rfl, ?_⟩, fun _ => rfl⟩ ?_
            rotate_left 1
            · (intro w; go_simp; try (with_reducible rfl))
            refine wpAnyIn_ready (rs := [10]) (by kernel_rfl) (by simp) ?_
            refine AllReadyIn.cons rfl (fun K hK => ?_) AllReadyIn.nil
            go_simp; refine ⟨trivial, ?_⟩; gi_at_call 54; refine (callsIn_wide.2 (CALL.out _ _ _ (by omega))).mono ?_; rintro e w' ⟨g, u', rfl, hg, hul, hud, hU', hgr, hS1, hS2⟩; obtain ⟨a1, a2, a3, a4⟩ := ov_after (k := x.1.1) st ne d2 (by have := hl.out.2.2.1; omega) hgr; have HUL := Lib.hid hul; have HS1 := Lib.hid hS1; have HS2 := Lib.hid hS2; clear hul hS1 hS2; refine hK _ _ ?_; clear hK K
            refine wpAnyIn_take (i := 11) (v := ?_) rfl rfl (by kernel_rfl) (by kernel_rfl) (by kernel_rfl) (fun _ _ _ h => h) ⟨Or.inl ⟨by rfl, ?_⟩, fun _ => rfl⟩ ?_
            rotate_left 1
            · (intro w; go_simp; try (with_reducible rfl))
            refine wpAnyIn_ready (rs := [12]) (by kernel_rfl) (by simp) ?_
            refine AllReadyIn.cons rfl (fun K hK => ?_) AllReadyIn.nil
            go_simp; refine hK _ _ ?_; clear hK K
            refine wpAnyIn_done (by kernel_rfl) ?_ _
            gi_wp2
            exact ovR x st ne d1 d2 hl.out inv.out hBW hgr hg HUL.out hud hU' HS1.out HS2.out HV.out
          · go_simp; refine hK _ _ ?_; clear hK K
            refine wpAnyIn_take (i := 6) (v := ?_) rfl rfl (by kernel_rfl) (by kernel_rfl) (by kernel_rfl) (fun _ _ _ h => h) ⟨Or.inl ⟨by rfl, ?_⟩, fun _ => rfl⟩ ?_
            rotate_left 1
            · (intro w; go_simp; try (with_reducible rfl))
            refine wpAnyIn_take (i := 7) (v := ?_) rfl rfl (by kernel_rfl) (by kernel_rfl) (by kernel_rfl) (fun _ _ _ h => h) ⟨Or.inl ⟨by rfl, ?_⟩, fun _ => rfl⟩ ?_
            rotate_left 1
            · (intro w; go_simp; try (with_reducible rfl))
            refine wpAnyIn_take (i := 8) (v := ?_) rfl rfl (by kernel_rfl) (by kernel_rfl) (by kernel_rfl) (fun _ _ _ h => h) ⟨Or.inl ⟨by rfl, ?_⟩, fun _ => rfl⟩ ?_
            rotate_left 1
            · (intro w; go_simp; try (with_reducible rfl))
            refine wpAnyIn_ready (rs := [0, 10]) (by kernel_rfl) (by simp) ?_
            refine AllReadyIn.cons rfl (fun K hK => ?_) (AllReadyIn.cons rfl (fun K hK => ?_) AllReadyIn.nil)
            · go_simp; refine hK _ _ ?_; clear hK K
              refine wpAnyIn_ready (rs := [10]) (by kernel_rfl) (by simp) ?_
              refine AllReadyIn.cons rfl (fun K hK => ?_) AllReadyIn.nil
              go_simp; refine ⟨trivial, ?_⟩; gi_at_call 54; refine (callsIn_wide.2 (CALL.out _ _ _ (by omega))).mono ?_; rintro e w' ⟨g, u', rfl, hg, hul, hud, hU', hgr, hS1, hS2⟩; obtain ⟨a1, a2, a3, a4⟩ := ov_after (k := x.1.1) st ne d2 (by have := hl.out.2.2.1; omega) hgr; have HUL := Lib.hid hul; have HS1 := Lib.hid hS1; have HS2 := Lib.hid hS2; clear hul hS1 hS2; refine hK _ _ ?_; clear hK K
              refine wpAnyIn_take (i := 11) (v := ?_) rfl rfl (by kernel_rfl) (by kernel_rfl) (by kernel_rfl) (fun _ _ _ h => h) ⟨Or.inl ⟨by rfl, ?_⟩, fun _ => rfl⟩ ?_
              rotate_left 1
              · (intro w; go_simp; try (with_reducible rfl))
              refine wpAnyIn_ready (rs := [12]) (by kernel_rfl) (by simp) ?_
              refine AllReadyIn.cons rfl (fun K hK => ?_) AllReadyIn.nil
              go_simp; refine hK _ _ ?_; clear hK K
              refine wpAnyIn_done (by kernel_rfl) ?_ _
              gi_wp2
              exact ovR x st ne d1 d2 hl.out inv.out hBW hgr hg HUL.out hud hU' HS1.out HS2.out HV.out
            · go_simp; refine ⟨trivial, ?_⟩; gi_at_call 54; refine (callsIn_wide.2 (CALL.out _ _ _ (by omega))).mono ?_; rintro e w' ⟨g, u', rfl, hg, hul, hud, hU', hgr, hS1, hS2⟩; obtain ⟨a1, a2, a3, a4⟩ := ov_after (k := x.1.1) st ne d2 (by have := hl.out.2.2.1; omega) hgr; have HUL := Lib.hid hul; have HS1 := Lib.hid hS1; have HS2 := Lib.hid hS2; clear hul hS1 hS2; refine hK _ _ ?_; clear hK K
              refine wpAnyIn_ready (rs := [0]) (by kernel_rfl) (by simp) ?_
              refine AllReadyIn.cons rfl (fun K hK => ?_) AllReadyIn.nil
              go_simp; refine hK _ _ ?_; clear hK K
              refine wpAnyIn_take (i := 11) (v := ?_) rfl rfl (by kernel_rfl) (by kernel_rfl) (by kernel_rfl) (fun _ _ _ h => h) ⟨Or.inl ⟨by rfl, ?_⟩, fun _ => rfl⟩ ?_
              rotate_left 1
              · (intro w; go_simp; try (with_reducible rfl))
              refine wpAnyIn_ready (rs := [12]) (by kernel_rfl) (by simp) ?_
              refine AllReadyIn.cons rfl (fun K hK => ?_) AllReadyIn.nil
              go_simp; refine hK _ _ ?_; clear hK K
              refine wpAnyIn_done (by kernel_rfl) ?_ _
              gi_wp2
              exact ovR x st ne d1 d2 hl.out inv.out hBW hgr hg HUL.out hud hU' HS1.out HS2.out HV.out
      · go_simp; refine hK _ _ ?_; clear hK K
        refine wpAnyIn_take (i := 6) (v := ?_) rfl rfl (by kernel_rfl) (by kernel_rfl) (by kernel_rfl) (fun _ _ _ h => h) ⟨Or.inl ⟨by rfl, ?_⟩, fun _ => rfl⟩ ?_
        rotate_left 1
        · (intro w; go_simp; try (with_reducible rfl))
        refine wpAnyIn_take (i := 7) (v := ?_) rfl rfl (by kernel_rfl) (by kernel_rfl) (by kernel_rfl) (fun _ _ _ h => h) ⟨Or.inl ⟨by rfl, ?_⟩, fun _ => rfl⟩ ?_
        rotate_left 1
        · (intro w; go_simp; try (with_reducible rfl))
        refine wpAnyIn_ready (rs := [0, 2, 9]) (by kernel_rfl) (by simp) ?_
        refine AllReadyIn.cons rfl (fun K hK => ?_) (AllReadyIn.cons rfl (fun K hK => ?_) (AllReadyIn.cons rfl (fun K hK => ?_) AllReadyIn.nil))
        · go_simp; refine hK _ _ ?_; clear hK K
          refine wpAnyIn_ready (rs := [2, 9]) (by kernel_rfl) (by simp) ?_
          refine AllReadyIn.cons rfl (fun K hK => ?_) (AllReadyIn.cons rfl (fun K hK => ?_) AllReadyIn.nil)
          · go_simp; refine hK _ _ ?_; clear hK K
            refine wpAnyIn_take (i := 8) (v := ?_) rfl rfl (by kernel_rfl) (by kernel_rfl) (by kernel_rfl) (fun _ _ _ h => h) ⟨Or.inl ⟨by rfl, ?_⟩, fun _ => rfl⟩ ?_
            rotate_left 1
            · (intro w; go_simp; try (with_reducible rfl))
            refine wpAnyIn_ready (rs := [9]) (by kernel_rfl) (by simp) ?_
            refine AllReadyIn.cons rfl (fun K hK => ?_) AllReadyIn.nil
            go_simp; refine hK _ _ ?_; clear hK K
            refine wpAnyIn_ready (rs := [10]) (by kernel_rfl) (by simp) ?_
            refine AllReadyIn.cons rfl (fun K hK => ?_) AllReadyIn.nil
            go_simp; refine ⟨trivial, ?_⟩; gi_at_call 54; refine (callsIn_wide.2 (CALL.out _ _ _ (by omega))).mono ?_; rintro e w' ⟨g, u', rfl, hg, hul, hud, hU', hgr, hS1, hS2⟩; obtain ⟨a1, a2, a3, a4⟩ := ov_after (k := x.1.1) st ne d2 (by have := hl.out.2.2.1; omega) hgr; have HUL := Lib.hid hul; have HS1 := Lib.hid hS1; have HS2 := Lib.hid hS2; clear hul hS1 hS2; refine hK _ _ ?_; clear hK K
            refine wpAnyIn_take (i := 11) (v := ?_) rfl rfl (by kernel_rfl) (by kernel_rfl) (by kernel_rfl) (fun _ _ _ h => h) ⟨Or.inl ⟨by rfl, ?_⟩, fun _ => rfl⟩ ?_
            rotate_left 1
            · (intro w; go_simp; try (with_reducible rfl))
            refine wpAnyIn_ready (rs := [12]) (by kernel_rfl) (by simp) ?_
            refine AllReadyIn.cons rfl (fun K hK => ?_) AllReadyIn.nil
            go_simp; refine hK _ _ ?_; clear hK K
            refine wpAnyIn_done (by kernel_rfl) ?_ _
            gi_wp2
            exact ovR x st ne d1 d2 hl.out inv.out hBW hgr hg HUL.out hud hU' HS1.out HS2.out HV.out
          · go_simp; refine hK _ _ ?_; clear hK K
            refine wpAnyIn_ready (rs := [2]) (by kernel_rfl) (by simp) ?_
            refine AllReadyIn.cons rfl (fun K hK => ?_) AllReadyIn.nil
            go_simp; refine hK _ _ ?_; clear hK K
            refine wpAnyIn_take (i := 8) (v := ?_) rfl rfl (by kernel_rfl) (by kernel_rfl) (by kernel_rfl) (fun _ _ _ h => h) ⟨Or.inl ⟨by rfl, ?_⟩, fun _ => rfl⟩ ?_
            rotate_left 1
            · (intro w; go_simp; try (with_reducible rfl))
            refine wpAnyIn_ready (rs := [10]) (by kernel_rfl) (by simp) ?_
            refine AllReadyIn.cons rfl (fun K hK => ?_) AllReadyIn.nil
            go_simp; refine ⟨trivial, ?_⟩; gi_at_call 54; refine (callsIn_wide.2 (CALL.out _ _ _ (by omega))).mono ?_; rintro e w' ⟨g, u', rfl, hg, hul, hud, hU', hgr, hS1, hS2⟩; obtain ⟨a1, a2, a3, a4⟩ := ov_after (k := x.1.1) st ne d2 (by have := hl.out.2.2.1; omega) hgr; have HUL := Lib.hid hul; have HS1 := Lib.hid hS1; have HS2 := Lib.hid hS2; clear hul hS1 hS2; refine hK _ _ ?_; clear hK K
            refine wpAnyIn_take (i := 11) (v := ?_) rfl rfl (by kernel_rfl) (by kernel_rfl) (by kernel_rfl) (fun _ _ _ h => h) ⟨Or.inl ⟨by rfl, ?_⟩, fun _ => rfl⟩ ?_
            rotate_left 1
            · (intro w; go_simp; try (with_reducible rfl))
            refine wpAnyIn_ready (rs := [12]) (by kernel_rfl) (by simp) ?_
            refine AllReadyIn.cons rfl (fun K hK => ?_) AllReadyIn.nil
            go_simp; refine hK _ _ ?_; clear hK K
            refine wpAnyIn_done (by kernel_rfl) ?_ _
            gi_wp2
            exact ovR x st ne d1 d2 hl.out inv.out hBW hgr hg HUL.out hud hU' HS1.out HS2.out HV.out
        · go_simp; refine hK _ _ ?_; clear hK K
          refine wpAnyIn_take (i := 8) (v := ?_) rfl rfl (by kernel_rfl) (by kernel_rfl) (by kernel_rfl) (fun _ _ _ h => h) ⟨Or.inl ⟨by rfl, ?_⟩, fun _ => rfl⟩ ?_
          rotate_left 1
          · (intro w; go_simp; try (with_reducible rfl))
          refine wpAnyIn_ready (rs := [0, 9]) (by kernel_rfl) (by simp) ?_
          refine AllReadyIn.cons rfl (fun K hK => ?_) (AllReadyIn.cons rfl (fun K hK => ?_) AllReadyIn.nil)
          · go_simp; refine hK _ _ ?_; clear hK K
            refine wpAnyIn_ready (rs := [9]) (by kernel_rfl) (by simp) ?_
            refine AllReadyIn.cons rfl (fun K hK => ?_) AllReadyIn.nil
            go_simp; refine hK _ _ ?_; clear hK K
            refine wpAnyIn_ready (rs := [10]) (by kernel_rfl) (by simp) ?_
            refine AllReadyIn.cons rfl (fun K hK => ?_) AllReadyIn.nil
            go_simp; refine ⟨trivial, ?_⟩; gi_at_call 54; refine (callsIn_wide.2 (CALL.out _ _ _ (by omega))).mono ?_; rintro e w' ⟨g, u', rfl, hg, hul, hud, hU', hgr, hS1, hS2⟩; obtain ⟨a1, a2, a3, a4⟩ := ov_after (k := x.1.1) st ne d2 (by have := hl.out.2.2.1; omega) hgr; have HUL := Lib.hid hul; have HS1 := Lib.hid hS1; have HS2 := Lib.hid hS2; clear hul hS1 hS2; refine hK _ _ ?_; clear hK K
            refine wpAnyIn_take (i := 11) (v := ?_) rfl rfl (by kernel_rfl) (by kernel_rfl) (by kernel_rfl) (fun _ _ _ h => h) ⟨Or.inl ⟨by rfl, ?_⟩, fun _ => rfl⟩ ?_
            rotate_left 1
            · (intro w; go_simp; try (with_reducible rfl))
            refine wpAnyIn_ready (rs := [12]) (by kernel_rfl) (by simp) ?_
            refine AllReadyIn.cons rfl (fun K hK => ?_) AllReadyIn.nil
            go_simp; refine hK _ _ ?_; clear hK K
            refine wpAnyIn_done (by kernel_rfl) ?_ _
            gi_wp2
            exact ovR x st ne d1 d2 hl.out inv.out hBW hgr hg HUL.out hud hU' HS1.out HS2.out HV.out
          · go_simp; refine hK _ _ ?_; clear hK K
            refine wpAnyIn_ready (rs := [0, 10]) (by kernel_rfl) (by simp) ?_
            refine AllReadyIn.cons rfl (fun K hK => ?_) (AllReadyIn.cons rfl (fun K hK => ?_) AllReadyIn.nil)
            · go_simp; refine hK _ _ ?_; clear hK K
              refine wpAnyIn_ready (rs := [10]) (by kernel_rfl) (by simp) ?_
              refine AllReadyIn.cons rfl (fun K hK => ?_) AllReadyIn.nil
              go_simp; refine ⟨trivial, ?_⟩; gi_at_call 54; refine (callsIn_wide.2 (CALL.out _ _ _ (by omega))).mono ?_; rintro e w' ⟨g, u', rfl, hg, hul, hud, hU', hgr, hS1, hS2⟩; obtain ⟨a1, a2, a3, a4⟩ := ov_after (k := x.1.1) st ne d2 (by have := hl.out.2.2.1; omega) hgr; have HUL := Lib.hid hul; have HS1 := Lib.hid hS1; have HS2 := Lib.hid hS2; clear hul hS1 hS2; refine hK _ _ ?_; clear hK K
              refine wpAnyIn_take (i := 11) (v := ?_) rfl rfl (by kernel_rfl) (by kernel_rfl) (by kernel_rfl) (fun _ _ _ h => h) ⟨Or.inl ⟨by rfl, ?_⟩, fun _ => rfl⟩ ?_
              rotate_left 1
              · (intro w; go_simp; try (with_reducible rfl))
              refine wpAnyIn_ready (rs := [12]) (by kernel_rfl) (by simp) ?_
              refine AllReadyIn.cons rfl (fun K hK => ?_) AllReadyIn.nil
              go_simp; refine hK _ _ ?_; clear hK K
              refine wpAnyIn_done (by kernel_rfl) ?_ _
              gi_wp2
              exact ovR x st ne d1 d2 hl.out inv.out hBW hgr hg HUL.out hud hU' HS1.out HS2.out HV.out
            · go_simp; refine ⟨trivial, ?_⟩; gi_at_call 54; refine (callsIn_wide.2 (CALL.out _ _ _ (by omega))).mono ?_; rintro e w' ⟨g, u', rfl, hg, hul, hud, hU', hgr, hS1, hS2⟩; obtain ⟨a1, a2, a3, a4⟩ := ov_after (k := x.1.1) st ne d2 (by have := hl.out.2.2.1; omega) hgr; have HUL := Lib.hid hul; have HS1 := Lib.hid hS1; have HS2 := Lib.hid hS2; clear hul hS1 hS2; refine hK _ _ ?_; clear hK K
              refine wpAnyIn_ready (rs := [0]) (by kernel_rfl) (by simp) ?_
              refine AllReadyIn.cons rfl (fun K hK => ?_) AllReadyIn.nil
              go_simp; refine hK _ _ ?_; clear hK K
              refine wpAnyIn_take (i := 11) (v := ?_) rfl rfl (by kernel_rfl) (by kernel_rfl) (by kernel_rfl) (fun _ _ _ h => h) ⟨Or.inl ⟨by rfl, ?_⟩, fun _ => rfl⟩ ?_
              rotate_left 1
              · (intro w; go_simp; try (with_reducible rfl))
              refine wpAnyIn_ready (rs := [12]) (by kernel_rfl) (by simp) ?_
              refine AllReadyIn.cons rfl (fun K hK => ?_) AllReadyIn.nil
              go_simp; refine hK _ _ ?_; clear hK K
              refine wpAnyIn_done (by kernel_rfl) ?_ _
              gi_wp2
              exact ovR x st ne d1 d2 hl.out inv.out hBW hgr hg HUL.out hud hU' HS1.out HS2.out HV.out
        · go_simp; refine hK _ _ ?_; clear hK K
          refine wpAnyIn_ready (rs := [0, 2]) (by kernel_rfl) (by simp) ?_
          refine AllReadyIn.cons rfl (fun K hK => ?_) (AllReadyIn.cons rfl (fun K hK => ?_) AllReadyIn.nil)
          · go_simp; refine hK _ _ ?_; clear hK K
            refine wpAnyIn_ready (rs := [2]) (by kernel_rfl) (by simp) ?_
            refine AllReadyIn.cons rfl (fun K hK => ?_) AllReadyIn.nil
            go_simp; refine hK _ _ ?_; clear hK K
            refine wpAnyIn_take (i := 8) (v := ?_) rfl rfl (by kernel_rfl) (by kernel_rfl) (by kernel_rfl) (fun _ _ _ h => h) ⟨Or.inl ⟨by rfl, ?_⟩, fun _ => rfl⟩ ?_
            rotate_left 1
            · (intro w; go_simp; try (with_reducible rfl))
            refine wpAnyIn_ready (rs := [10]) (by kernel_rfl) (by simp) ?_
            refine AllReadyIn.cons rfl (fun K hK => ?_) AllReadyIn.nil
            go_simp; refine ⟨trivial, ?_⟩; gi_at_call 54; refine (callsIn_wide.2 (CALL.out _ _ _ (by omega))).mono ?_; rintro e w' ⟨g, u', rfl, hg, hul, hud, hU', hgr, hS1, hS2⟩; obtain ⟨a1, a2, a3, a4⟩ := ov_after (k := x.1.1) st ne d2 (by have := hl.out.2.2.1; omega) hgr; have HUL := Lib.hid hul; have HS1 := Lib.hid hS1; have HS2 := Lib.hid hS2; clear hul hS1 hS2; refine hK _ _ ?_; clear hK K
            refine wpAnyIn_take (i := 11) (v := ?_) rfl rfl (by kernel_rfl) (by kernel_rfl) (by kernel_rfl) (fun _ _ _ h => h) ⟨Or.inl ⟨by rfl, ?_⟩, fun _ => rfl⟩ ?_
            rotate_left 1
            · (intro w; go_simp; try (with_reducible rfl))
            refine wpAnyIn_ready (rs := [12]) (by kernel_rfl) (by simp) ?_
            refine AllReadyIn.cons rfl (fun K hK => ?_) AllReadyIn.nil
            go_simp; refine hK _ _ ?_; clear hK K
            refine wpAnyIn_done (by kernel_rfl) ?_ _
            gi_wp2
            exact ovR x st ne d1 d2 hl.out inv.out hBW hgr hg HUL.out hud hU' HS1.out HS2.out HV.out
          · go_simp; refine hK _ _ ?_; clear hK K
            refine wpAnyIn_take (i := 8) (v := ?_) rfl rfl (by kernel_rfl) (by kernel_rfl) (by kernel_rfl) (fun _ _ _ h => h) ⟨Or.inl ⟨by rfl, ?_⟩, fun _ => rfl⟩ ?_
            rotate_left 1
            · (intro w; go_simp; try (with_reducible rfl))
            refine wpAnyIn_ready (rs := [0, 10]) (by kernel_rfl) (by simp) ?_
            refine AllReadyIn.cons rfl (fun K hK => ?_) (AllReadyIn.cons rfl (fun K hK => ?_) AllReadyIn.nil)
            · go_simp; refine hK _ _ ?_; clear hK K
              refine wpAnyIn_ready (rs := [10]) (by kernel_rfl) (by simp) ?_
              refine AllReadyIn.cons rfl (fun K hK => ?_) AllReadyIn.nil
              go_simp; refine ⟨trivial, ?_⟩; gi_at_call 54; refine (callsIn_wide.2 (CALL.out _ _ _ (by omega))).mono ?_; rintro e w' ⟨g, u', rfl, hg, hul, hud, hU', hgr, hS1, hS2⟩; obtain ⟨a1, a2, a3, a4⟩ := ov_after (k := x.1.1) st ne d2 (by have := hl.out.2.2.1; omega) hgr; have HUL := Lib.hid hul; have HS1 := Lib.hid hS1; have HS2 := Lib.hid hS2; clear hul hS1 hS2; refine hK _ _ ?_; clear hK K
              refine wpAnyIn_take (i := 11) (v := ?_) rfl rfl (by kernel_rfl) (by kernel_rfl) (by kernel_rfl) (fun _ _ _ h => h) ⟨Or.inl ⟨by rfl, ?_⟩, fun _ => rfl⟩ ?_
              rotate_left 1
              · (intro w; go_simp; try (with_reducible rfl))
              refine wpAnyIn_ready (rs := [12]) (by kernel_rfl) (by simp) ?_
              refine AllReadyIn.cons rfl (fun K hK => ?_) AllReadyIn.nil
              go_simp; refine hK _ _ ?_; clear hK K
              refine wpAnyIn_done (by kernel_rfl) ?_ _
              gi_wp2
              exact ovR x st ne d1 d2 hl.out inv.out hBW hgr hg HUL.out hud hU' HS1.out HS2.out HV.out
            · go_simp; refine ⟨trivial, ?_⟩; gi_at_call 54; refine (callsIn_wide.2 (CALL.out _ _ _ (by omega))).mono ?_; rintro e w' ⟨g, u', rfl, hg, hul, hud, hU', hgr, hS1, hS2⟩; obtain ⟨a1, a2, a3, a4⟩ := ov_after (k := x.1.1) st ne d2 (by have := hl.out.2.2.1; omega) hgr; have HUL := Lib.hid hul; have HS1 := Lib.hid hS1; have HS2 := Lib.hid hS2; clear hul hS1 hS2; refine hK _ _ ?_; clear hK K
              refine wpAnyIn_ready (rs := [0]) (by kernel_rfl) (by simp) ?_
              refine AllReadyIn.cons rfl (fun K hK => ?_) AllReadyIn.nil
              go_simp; refine hK _ _ ?_; clear hK K
              refine wpAnyIn_take (i := 11) (v := ?_) rfl rfl (by kernel_rfl) (by kernel_rfl) (by kernel_rfl) (fun _ _ _ h => h) ⟨Or.inl ⟨by rfl, ?_⟩, fun _ => rfl⟩ ?_
              rotate_left 1
              · (intro w; go_simp; try (with_reducible rfl))
              refine wpAnyIn_ready (rs := [12]) (by kernel_rfl) (by simp) ?_
              refine AllReadyIn.cons rfl (fun K hK => ?_) AllReadyIn.nil
              go_simp; refine hK _ _ ?_; clear hK K
              refine wpAnyIn_done (by kernel_rfl) ?_ _
              gi_wp2
              exact ovR x st ne d1 d2 hl.out inv.out hBW hgr hg HUL.out hud hU' HS1.out HS2.out HV.out
      · go_simp; refine hK _ _ ?_; clear hK K
        refine wpAnyIn_ready (rs := [0, 2, 5]) (by kernel_rfl) (by simp) ?_
        refine AllReadyIn.cons rfl (fun K hK => ?_) (AllReadyIn.cons rfl (fun K hK => ?_) (AllReadyIn.cons rfl (fun K hK => ?_) AllReadyIn.nil))
        · go_simp; refine hK _ _ ?_; clear hK K
          refine wpAnyIn_ready (rs := [2, 5]) (by kernel_rfl) (by simp) ?_
          refine AllReadyIn.cons rfl (fun K hK => ?_) (AllReadyIn.cons rfl (fun K hK => ?_) AllReadyIn.nil)
          · go_simp; refine hK _ _ ?_; clear hK K
            refine wpAnyIn_ready (rs := [5]) (by kernel_rfl) (by simp) ?_
            refine AllReadyIn.cons rfl (fun K hK => ?_) AllReadyIn.nil
            go_simp; refine hK _ _ ?_; clear hK K
            refine wpAnyIn_take (i := 6) (v := ?_) rfl rfl (by kernel_rfl) (by kernel_rfl) (by kernel_rfl) (fun _ _ _ h => h) ⟨Or.inl ⟨by rfl, ?_⟩, fun _ => rfl⟩ ?_
            rotate_left 1
            · (intro w; go_simp; try (with_reducible rfl))
            refine wpAnyIn_take (i := 7) (v := ?_) rfl rfl (by kernel_rfl) (by kernel_rfl) (by kernel_rfl) (fun _ _ _ h => h) ⟨Or.inl ⟨by rfl, ?_⟩, fun _ => rfl⟩ ?_
            rotate_left 1
            · (intro w; go_simp; try (with_reducible rfl))
            refine wpAnyIn_take (i := 8) (v := ?_) rfl rfl (by kernel_rfl) (by kernel_rfl) (by kernel_rfl) (fun _ _ _ h => h) ⟨Or.inl ⟨by rfl, ?_⟩, fun _ => rfl⟩ ?_
            rotate_left 1
            · (intro w; go_simp; try (with_reducible rfl))
            refine wpAnyIn_ready (rs := [10]) (by kernel_rfl) (by simp) ?_
            refine AllReadyIn.cons rfl (fun K hK => ?_) AllReadyIn.nil
            go_simp; refine ⟨trivial, ?_⟩; gi_at_call 54; refine (callsIn_wide.2 (CALL.out _ _ _ (by omega))).mono ?_; rintro e w' ⟨g, u', rfl, hg, hul, hud, hU', hgr, hS1, hS2⟩; obtain ⟨a1, a2, a3, a4⟩ := ov_after (k := x.1.1) st ne d2 (by have := hl.out.2.2.1; omega) hgr; have HUL := Lib.hid hul; have HS1 := Lib.hid hS1; have HS2 := Lib.hid hS2; clear hul hS1 hS2; refine hK _ _ ?_; clear hK K
            refine wpAnyIn_take (i := 11) (v := ?_) rfl rfl (by kernel_rfl) (by kernel_rfl) (by kernel_rfl) (fun _ _ _ h => h) ⟨Or.inl ⟨by rfl, ?_⟩, fun _ => rfl⟩ ?_
            rotate_left 1
            · (intro w; go_simp; try (with_reducible rfl))
            refine wpAnyIn_ready (rs := [12]) (by kernel_rfl) (by simp) ?_
            refine AllReadyIn.cons rfl (fun K hK => ?_) AllReadyIn.nil
            go_simp; refine hK _ _ ?_; clear hK K
            refine wpAnyIn_done (by kernel_rfl) ?_ _
            gi_wp2
            exact ovR x st ne d1 d2 hl.out inv.out hBW hgr hg HUL.out hud hU' HS1.out HS2.out HV.out
          · go_simp; refine hK _ _ ?_; clear hK K
            refine wpAnyIn_take (i := 6) (v := ?_) rfl rfl (by kernel_rfl) (by kernel_rfl) (by kernel_rfl) (fun _ _ _ h => h) ⟨Or.inl ⟨by rfl, ?_⟩, fun _ => rfl⟩ ?_
            rotate_left 1
            · (intro w; go_simp; try (with_reducible rfl))
            refine wpAnyIn_take (i := 7) (v := ?_) rfl rfl (by kernel_rfl) (by kernel_rfl) (by kernel_rfl) (fun _ _ _ h => h) ⟨Or.inl ⟨by rfl, ?_⟩, fun _ => rfl⟩ ?_
            rotate_left 1
            · (intro w; go_simp; try (with_reducible rfl))
            refine wpAnyIn_ready (rs := [2]) (by kernel_rfl) (by simp) ?_
            refine AllReadyIn.cons rfl (fun K hK => ?_) AllReadyIn.nil
            go_simp; refine hK _ _ ?_; clear hK K
            refine wpAnyIn_take (i := 8) (v := ?_) rfl rfl (by kernel_rfl) (by kernel_rfl) (by kernel_rfl) (fun _ _ _ h => h) ⟨Or.inl ⟨by rfl, ?_⟩, fun _ => rfl⟩ ?_
            rotate_left 1
            · (intro w; go_simp; try (with_reducible rfl))
            refine wpAnyIn_ready (rs := [10]) (by kernel_rfl) (by simp) ?_
            refine AllReadyIn.cons rfl (fun K hK => ?_) AllReadyIn.nil
            go_simp; refine ⟨trivial, ?_⟩; gi_at_call 54; refine (callsIn_wide.2 (CALL.out _ _ _ (by omega))).mono ?_; rintro e w' ⟨g, u', rfl, hg, hul, hud, hU', hgr, hS1, hS2⟩; obtain ⟨a1, a2, a3, a4⟩ := ov_after (k := x.1.1) st ne d2 (by have := hl.out.2.2.1; omega) hgr; have HUL := Lib.hid hul; have HS1 := Lib.hid hS1; have HS2 := Lib.hid hS2; clear hul hS1 hS2; refine hK _ _ ?_; clear hK K
            refine wpAnyIn_take (i := 11) (v := ?_) rfl rfl (by kernel_rfl) (by kernel_rfl) (by kernel_rfl) (fun _ _ _ h => h) ⟨Or.inl ⟨by rfl, ?_⟩, fun _ => rfl⟩ ?_
            rotate_left 1
            · (intro w; go_simp; try (with_reducible rfl))
            refine wpAnyIn_ready (rs := [12]) (by kernel_rfl) (by simp) ?_
            refine AllReadyIn.cons rfl (fun K hK => ?_) AllReadyIn.nil
            go_simp; refine hK _ _ ?_; clear hK K
            refine wpAnyIn_done (by kernel_rfl) ?_ _
            gi_wp2
            exact ovR x st ne d1 d2 hl.out inv.out hBW hgr hg HUL.out hud hU' HS1.out HS2.out HV.out
        · go_simp; refine hK _ _ ?_; clear hK K
          refine wpAnyIn_ready (rs := [0, 5]) (by kernel_rfl) (by simp) ?_
          refine AllReadyIn.cons rfl (fun K hK => ?_) (AllReadyIn.cons rfl (fun K hK => ?_) AllReadyIn.nil)
          · go_simp; refine hK _ _ ?_; clear hK K
            refine wpAnyIn_ready (rs := [5]) (by kernel_rfl) (by simp) ?_
            refine AllReadyIn.cons rfl (fun K hK => ?_) AllReadyIn.nil
            go_simp; refine hK _ _ ?_; clear hK K
            refine wpAnyIn_take (i := 6) (v := ?_) rfl rfl (by kernel_rfl) (by kernel_rfl) (by kernel_rfl) (fun _ _ _ h => h) ⟨Or.inl ⟨by rfl, ?_⟩, fun _ => rfl⟩ ?_
            rotate_left 1
            · (intro w; go_simp; try (with_reducible rfl))
            refine wpAnyIn_take (i := 7) (v := ?_) rfl rfl (by kernel_rfl) (by kernel_rfl) (by kernel_rfl) (fun _ _ _ h => h) ⟨Or.inl ⟨by rfl, ?_⟩, fun _ => rfl⟩ ?_
            rotate_left 1
            · (intro w; go_simp; try (with_reducible rfl))
            refine wpAnyIn_take (i := 8) (v := ?_) rfl rfl (by kernel_rfl) (by kernel_rfl) (by kernel_rfl) (fun _ _ _ h => h) ⟨Or.inl ⟨by rfl, ?_⟩, fun _ => rfl⟩ ?_
            rotate_left 1
            · (intro w; go_simp; try (with_reducible rfl))
            refine wpAnyIn_ready (rs := [10]) (by kernel_rfl) (by simp) ?_
            refine AllReadyIn.cons rfl (fun K hK => ?_) AllReadyIn.nil
            go_simp; refine ⟨trivial, ?_⟩; gi_at_call 54; refine (callsIn_wide.2 (CALL.out _ _ _ (by omega))).mono ?_; rintro e w' ⟨g, u', rfl, hg, hul, hud, hU', hgr, hS1, hS2⟩; obtain ⟨a1, a2, a3, a4⟩ := ov_after (k := x.1.1) st ne d2 (by have := hl.out.2.2.1; omega) hgr; have HUL := Lib.hid hul; have HS1 := Lib.hid hS1; have HS2 := Lib.hid hS2; clear hul hS1 hS2; refine hK _ _ ?_; clear hK K
            refine wpAnyIn_take (i := 11) (v := ?_) rfl rfl (by kernel_rfl) (by kernel_rfl) (by kernel_rfl) (fun _ _ _ h => h) ⟨Or.inl ⟨by rfl, ?_⟩, fun _ => rfl⟩ ?_
            rotate_left 1
            · (intro w; go_simp; try (with_reducible rfl))
            refine wpAnyIn_ready (rs := [12]) (by kernel_rfl) (by simp) ?_
            refine AllReadyIn.cons rfl (fun K hK => ?_) AllReadyIn.nil
            go_simp; refine hK _ _ ?_; clear hK K
            refine wpAnyIn_done (by kernel_rfl) ?_ _
            gi_wp2
            exact ovR x st ne d1 d2 hl.out inv.out hBW hgr hg HUL.out hud hU' HS1.out HS2.out HV.out
          · go_simp; refine hK _ _ ?_; clear hK K
            refine wpAnyIn_take (i := 6) (v := ?_) rfl rfl (by kernel_rfl) (by kernel_rfl) (by kernel_rfl) (fun _ _ _ h => h) ⟨Or.inl ⟨by rfl, ?_⟩, fun _ => rfl⟩ ?_
            rotate_left 1
            · (intro w; go_simp; try (with_reducible rfl))
            refine wpAnyIn_take (i := 7) (v := ?_) rfl rfl (by kernel_rfl) (by kernel_rfl) (by kernel_rfl) (fun _ _ _ h => h) ⟨Or.inl ⟨by rfl, ?_⟩, fun _ => rfl⟩ ?_
            rotate_left 1
            · (intro w; go_simp; try (with_reducible rfl))
            refine wpAnyIn_take (i := 8) (v := ?_) rfl rfl (by kernel_rfl) (by kernel_rfl) (by kernel_rfl) (fun _ _ _ h => h) ⟨Or.inl ⟨by rfl, ?_⟩, fun _ => rfl⟩ ?_
            rotate_left 1
            · (intro w; go_simp; try (with_reducible rfl))
            refine wpAnyIn_ready (rs := [0, 10]) (by kernel_rfl) (by simp) ?_
            refine AllReadyIn.cons rfl (fun K hK => ?_) (AllReadyIn.cons rfl (fun K hK => ?_) AllReadyIn.nil)
            · go_simp; refine hK _ _ ?_; clear hK K
              refine wpAnyIn_ready (rs := [10]) (by kernel_rfl) (by simp) ?_
              refine AllReadyIn.cons rfl (fun K hK => ?_) AllReadyIn.nil
              go_simp; refine ⟨trivial, ?_⟩; gi_at_call 54; refine (callsIn_wide.2 (CALL.out _ _ _ (by omega))).mono ?_; rintro e w' ⟨g, u', rfl, hg, hul, hud, hU', hgr, hS1, hS2⟩; obtain ⟨a1, a2, a3, a4⟩ := ov_after (k := x.1.1) st ne d2 (by have := hl.out.2.2.1; omega) hgr; have HUL := Lib.hid hul; have HS1 := Lib.hid hS1; have HS2 := Lib.hid hS2; clear hul hS1 hS2; refine hK _ _ ?_; clear hK K
              refine wpAnyIn_take (i := 11) (v := ?_) rfl rfl (by kernel_rfl) (by kernel_rfl) (by kernel_rfl) (fun _ _ _ h => h) ⟨Or.inl ⟨by rfl, ?_⟩, fun _ => rfl⟩ ?_
              rotate_left 1
              · (intro w; go_simp; try (with_reducible rfl))
              refine wpAnyIn_ready (rs := [12]) (by kernel_rfl) (by simp) ?_
              refine AllReadyIn.cons rfl (fun K hK => ?_) AllReadyIn.nil
              go_simp; refine hK _ _ ?_; clear hK K
              refine wpAnyIn_done (by kernel_rfl) ?_ _
              gi_wp2
              exact ovR x st ne d1 d2 hl.out inv.out hBW hgr hg HUL.out hud hU' HS1.out HS2.out HV.out
            · go_simp; refine ⟨trivial, ?_⟩; gi_at_call 54; refine (callsIn_wide.2 (CALL.out _ _ _ (by omega))).mono ?_; rintro e w' ⟨g, u', rfl, hg, hul, hud, hU', hgr, hS1, hS2⟩; obtain ⟨a1, a2, a3, a4⟩ := ov_after (k := x.1.1) st ne d2 (by have := hl.out.2.2.1; omega) hgr; have HUL := Lib.hid hul; have HS1 := Lib.hid hS1; have HS2 := Lib.hid hS2; clear hul hS1 hS2; refine hK _ _ ?_; clear hK K
              refine wpAnyIn_ready (rs := [0]) (by kernel_rfl) (by simp) ?_
              refine AllReadyIn.cons rfl (fun K hK => ?_) AllReadyIn.nil
              go_simp; refine hK _ _ ?_; clear hK K
              refine wpAnyIn_take (i := 11) (v := ?_) rfl rfl (by kernel_rfl) (by kernel_rfl) (by kernel_rfl) (fun _ _ _ h => h) ⟨Or.inl ⟨by rfl, ?_⟩, fun _ => rfl⟩ ?_
              rotate_left 1
              · (intro w; go_simp; try (with_reducible rfl))
              refine wpAnyIn_ready (rs := [12]) (by kernel_rfl) (by simp) ?_
              refine AllReadyIn.cons rfl (fun K hK => ?_) AllReadyIn.nil
              go_simp; refine hK _ _ ?_; clear hK K
              refine wpAnyIn_done (by kernel_rfl) ?_ _
              gi_wp2
              exact ovR x st ne d1 d2 hl.out inv.out hBW hgr hg HUL.out hud hU' HS1.out HS2.out HV.out
        · go_simp; refine hK _ _ ?_; clear hK K
          refine wpAnyIn_take (i := 6) (v := ?_) rfl rfl (by kernel_rfl) (by kernel_rfl) (by kernel_rfl) (fun _ _ _ h => h) ⟨Or.inl ⟨by rfl, ?_⟩, fun _ => rfl⟩ ?_
          rotate_left 1
          · (intro w; go_simp; try (with_reducible rfl))
          refine wpAnyIn_take (i := 7) (v := ?_) rfl rfl (by kernel_rfl) (by kernel_rfl) (by kernel_rfl) (fun _ _ _ h => h) ⟨Or.inl ⟨by rfl, ?_⟩, fun _ => rfl⟩ ?_
          rotate_left 1
          · (intro w; go_simp; try (with_reducible rfl))
          refine wpAnyIn_ready (rs := [0, 2]) (by kernel_rfl) (by simp) ?_
          refine AllReadyIn.cons rfl (fun K hK => ?_) (AllReadyIn.cons rfl (fun K hK => ?_) AllReadyIn.nil)
          · go_simp; refine hK _ _ ?_; clear hK K
            refine wpAnyIn_ready (rs := [2]) (by kernel_rfl) (by simp) ?_
            refine AllReadyIn.cons rfl (fun K hK => ?_) AllReadyIn.nil
            go_simp; refine hK _ _ ?_; clear hK K
            refine wpAnyIn_take (i := 8) (v := ?_) rfl rfl (by kernel_rfl) (by kernel_rfl) (by kernel_rfl) (fun _ _ _ h => h) ⟨Or.inl ⟨by rfl, ?_⟩, fun _ => rfl⟩ ?_
            rotate_left 1
            · (intro w; go_simp; try (with_reducible rfl))
            refine wpAnyIn_ready (rs := [10]) (by kernel_rfl) (by simp) ?_
            refine AllReadyIn.cons rfl (fun K hK => ?_) AllReadyIn.nil
            go_simp; refine ⟨trivial, ?_⟩; gi_at_call 54; refine (callsIn_wide.2 (CALL.out _ _ _ (by omega))).mono ?_; rintro e w' ⟨g, u', rfl, hg, hul, hud, hU', hgr, hS1, hS2⟩; obtain ⟨a1, a2, a3, a4⟩ := ov_after (k := x.1.1) st ne d2 (by have := hl.out.2.2.1; omega) hgr; have HUL := Lib.hid hul; have HS1 := Lib.hid hS1; have HS2 := Lib.hid hS2; clear hul hS1 hS2; refine hK _ _ ?_; clear hK K
            refine wpAnyIn_take (i := 11) (v := ?_) rfl rfl (by kernel_rfl) (by kernel_rfl) (by kernel_rfl) (fun _ _ _ h => h) ⟨Or.inl ⟨by rfl, ?_⟩, fun _ => rfl⟩ ?_
            rotate_left 1
            · (intro w; go_simp; try (with_reducible rfl))
            refine wpAnyIn_ready (rs := [12]) (by kernel_rfl) (by simp) ?_
            refine AllReadyIn.cons rfl (fun K hK => ?_) AllReadyIn.nil
            go_simp; refine hK _ _ ?_; clear hK K
            refine wpAnyIn_done (by kernel_rfl) ?_ _
            gi_wp2
            exact ovR x st ne d1 d2 hl.out inv.out hBW hgr hg HUL.out hud hU' HS1.out HS2.out HV.out
          · go_simp; refine hK _ _ ?_; clear hK K
            refine wpAnyIn_take (i := 8) (v := ?_) rfl rfl (by kernel_rfl) (by kernel_rfl) (by kernel_rfl) (fun _ _ _ h => h) ⟨Or.inl ⟨by rfl, ?_⟩, fun _ => rfl⟩ ?_
            rotate_left 1
            · (intro w; go_simp; try (with_reducible rfl))
            refine wpAnyIn_ready (rs := [0, 10]) (by kernel_rfl) (by simp) ?_
            refine AllReadyIn.cons rfl (fun K hK => ?_) (AllReadyIn.cons rfl (fun K hK => ?_) AllReadyIn.nil)
            · go_simp; refine hK _ _ ?_; clear hK K
              refine wpAnyIn_ready (rs := [10]) (by kernel_rfl) (by simp) ?_
              refine AllReadyIn.cons rfl (fun K hK => ?_) AllReadyIn.nil
              go_simp; refine ⟨trivial, ?_⟩; gi_at_call 54; refine (callsIn_wide.2 (CALL.out _ _ _ (by omega))).mono ?_; rintro e w' ⟨g, u', rfl, hg, hul, hud, hU', hgr, hS1, hS2⟩; obtain ⟨a1, a2, a3, a4⟩ := ov_after (k := x.1.1) st ne d2 (by have := hl.out.2.2.1; omega) hgr; have HUL := Lib.hid hul; have HS1 := Lib.hid hS1; have HS2 := Lib.hid hS2; clear hul hS1 hS2; refine hK _ _ ?_; clear hK K
              refine wpAnyIn_take (i := 11) (v := ?_) rfl rfl (by kernel_rfl) (by kernel_rfl) (by kernel_rfl) (fun _ _ _ h => h) ⟨Or.inl ⟨by rfl, ?_⟩, fun _ => rfl⟩ ?_
              rotate_left 1
              · (intro w; go_simp; try (with_reducible rfl))
              refine wpAnyIn_ready (rs := [12]) (by kernel_rfl) (by simp) ?_
              refine AllReadyIn.cons rfl (fun K hK => ?_) AllReadyIn.nil
              go_simp; refine hK _ _ ?_; clear hK K
              refine wpAnyIn_done (by kernel_rfl) ?_ _
              gi_wp2
              exact ovR x st ne d1 d2 hl.out inv.out hBW hgr hg HUL.out hud hU' HS1.out HS2.out HV.out
            · go_simp; refine ⟨trivial, ?_⟩; gi_at_call 54; refine (callsIn_wide.2 (CALL.out _ _ _ (by omega))).mono ?_; rintro e w' ⟨g, u', rfl, hg, hul, hud, hU', hgr, hS1, hS2⟩; obtain ⟨a1, a2, a3, a4⟩ := ov_after (k := x.1.1) st ne d2 (by have := hl.out.2.2.1; omega) hgr; have HUL := Lib.hid hul; have HS1 := Lib.hid hS1; have HS2 := Lib.hid hS2; clear hul hS1 hS2; refine hK _ _ ?_; clear hK K
              refine wpAnyIn_ready (rs := [0]) (by kernel_rfl) (by simp) ?_
              refine AllReadyIn.cons rfl (fun K hK => ?_) AllReadyIn.nil
              go_simp; refine hK _ _ ?_; clear hK K
              refine wpAnyIn_take (i := 11) (v := ?_) rfl rfl (by kernel_rfl) (by kernel_rfl) (by kernel_rfl) (fun _ _ _ h => h) ⟨Or.inl ⟨by rfl, ?_⟩, fun _ => rfl⟩ ?_
              rotate_left 1
              · (intro w; go_simp; try (with_reducible rfl))
              refine wpAnyIn_ready (rs := [12]) (by kernel_rfl) (by simp) ?_
              refine AllReadyIn.cons rfl (fun K hK => ?_) AllReadyIn.nil
              go_simp; refine hK _ _ ?_; clear hK K
              refine wpAnyIn_done (by kernel_rfl) ?_ _
              gi_wp2
              exact ovR x st ne d1 d2 hl.out inv.out hBW hgr hg HUL.out hud hU' HS1.out HS2.out HV.out
    case done =>
      rintro D ys W hD hys ⟨⟨st, ne⟩, ⟨uo, qo, d1, d2, hl, inv⟩, hBW⟩ hK
      have hyl : ys.length = J := by have := congrArg List.length hys; rwa [List.length_map, downs_length] at this
      have hov := inv (by rw [hys]; exact List.prefix_refl _)
      rw [hyl, Nat.sub_self] at hov
      have HO := Lib.hid (ovG_end hov)
      have hDl := lt_of_heap hK
      have hvp : 0 < nval v := by
        rcases Nat.eq_zero_or_pos (nval v) with h0 | h0
        · have := canon_zero hm h0; have h1 := HL2.out; rw [this] at h1; simp at h1
        · exact h0
      have HR : Hid (nval uo < 4294967296 ^ (m + 1)) := by
        unfold Hid
        rw [HO.out.2]
        exact Nat.lt_trans (Nat.mul_lt_mul_of_pos_right (Nat.mod_lt _ hvp) (Nat.pow_pos (by omega))) hfit.out.2
      have hmk2 := run_make_mag (m + 1) (by omega)
      have em : ((m + 1 : Nat) : Int) = (m : Int) + 1 := rfl
      rw [em] at hmk2
      have e1 := st.1.cell
      have d1l := d1.lt
      have d2l := d2.lt
      have b1l := st.2.2.1.lt
      have b2l := st.2.2.2.2.1.lt
      have hWz : w.heap.size ≤ W.heap.size := hBW.size
      have hE : OvE w bu gu (wc.heap.size + 1) wc.heap.size D N J uo qo (W.alloc (.cells (madeCells #[.int .u32 0] (m + 1)) 40)) := OvE.alloc ⟨st.2.2.1, d1, st.2.2.2.2.1, d2, hK, hBW⟩ _
      have hR0 := DBk.new W 40 (m + 1)
      clear em hyl hys hov inv hK
      go_wp2
      clear hmk2
      go_loopw [79] (fun k wr => ∃ (j : Nat) (r : List Nat), j ≤ m + 1 ∧ k = .int .i64 j ∧ DBk wr W.heap.size 40 r ∧ Hid (RsI uo (m + 1) s j r) ∧ OvE w bu gu (wc.heap.size + 1) wc.heap.size D N J uo qo wr) (fun k _ => m + 1 - (intOf k).toNat)
      case atStart => exact ⟨0, List.replicate (m + 1) 0, by omega, rfl, hR0, rsI_start, hE⟩
      case round =>
        obtain ⟨j, r, hj, rfl, hr, hi, hE⟩ := hrel
        have f2 := hE.1.cell
        have hmN2 : N + 1 = uo.length := hl.out.1.symm
        by_cases hlt : j < m + 1
        · have g1 := hE.2.1.cell (k := j) (by omega)
          have g2 := hE.2.1.cell (k := j + 1) (by omega)
          have q1 := dg_lt hl.out.2.1 j
          have q2 := dg_lt hl.out.2.1 (j + 1)
          have g3 := hr.cell (k := j) (by rw [hi.out.1]; exact hlt)
          have g4 := hr.frozen j
          have g5 := hr.lt
          have E := Lib.hid (rs_int (b := dg uo (j + 1)) q1 hs)
          have hr2 : DBk (wr.setCell ⟨W.heap.size, j, none⟩ (.int .u32 (rsD (dg uo j) (dg uo (j + 1)) s : Nat))).drew W.heap.size 40 (r.set j (rsD (dg uo j) (dg uo (j + 1)) s)) := DBk.set (w := wr) hr _ _
          have hi2 := Lib.hid (rsI_step hi.out hl.out.2.1 hs hlt)
          have hE3 : ∀ u, OvE w bu gu (wc.heap.size + 1) wc.heap.size D N J uo qo (wr.setCell ⟨W.heap.size, j, none⟩ u).drew := fun u => OvE.drew (OvE.store (g := W.heap.size) hE ⟨by omega, by omega, by omega, by omega, by omega, hWz⟩ j u)
          have hj0 : (0 : Int) ≤ (j : Int) := by omega
          have hj1 : (j : Int) < (N : Int) + 1 := by omega
          have hj2 : (j : Int) < (m : Int) + 1 := by omega
          have hju : j + 1 < uo.length := by omega
          have hju0 : j < uo.length := by omega
          have hjN : (j : Int) + 1 < (N : Int) + 1 := by omega
          have s1 : IntKind.i64.wrap ((j : Int) + 1) = (j : Int) + 1 := by rw [IntKind.wrap_i64]; omega
          have s2 : ((j : Int) + 1).toNat = j + 1 := by omega
          have s3 : (0 : Int) ≤ (j : Int) + 1 := by omega
          have s4 : IntKind.i64.wrap (32 - (s : Int)) = 32 - (s : Int) := by rw [IntKind.wrap_i64]; omega
          have s5 : (32 - (s : Int)).toNat = 32 - s := by omega
          have s6 : (0 : Int) ≤ 32 - (s : Int) := by omega
          clear hmN2 hr hi hE
          go_wp2
          go_region_held3 (fun W' => W'.cell? ⟨bu, 0, none⟩ = some (.slice (some ⟨gu, 0, none⟩) (N + 1) (N + 1)) ∧ W'.cell? ⟨gu, j, none⟩ = some (.int .u32 (dg uo j : Nat)) ∧ W'.cell? ⟨gu, j + 1, none⟩ = some (.int .u32 (dg uo (j + 1) : Nat)))
            (first | exact ⟨f2, g1, g2⟩ | exact ⟨(hE3 _).1.cell, (hE3 _).2.1.cell hju0, (hE3 _).2.1.cell hju⟩)
            (fail)
          all_goals
            rw [IntKind.wrap_u32, E.out]
            go_wp2
            go_roundw
            case rel => exact ⟨j + 1, _, by omega, by go_num, hr2, hi2, hE3 _⟩
            case measure => simp [intOf]; omega
        · obtain rfl : j = m + 1 := by omega
          have f3 := hE.2.2.1.cell
          have hvr : nval r = nval l % nval v := rsI_end hi.out (by omega) HO.out.2 HR.out
          have sr := hr.sl hi.out.2.1 (B := W.heap.size + 1) (by omega) (by have := hi.out.1; omega)
          rw [hi.out.1] at sr
          have sq := hE.2.2.2.1.sl hl.out.2.2.2 (B := W.heap.size + 1) (by omega) (by have := hl.out.2.2.1; omega)
          rw [hl.out.2.2.1] at sq
          have TR := Lib.hid (trim_any _ _ _ _ _ _ sr.1 sr.2.1 sr.2.2)
          have TQ := Lib.hid (trim_any _ _ _ _ _ _ sq.1 sq.2.1 sq.2.2)
          have VR := Lib.hid (sr.val hvr)
          have VQ := Lib.hid (sq.val HO.out.1)
          have hrl := hr.lt
          clear hvr sr sq hmN2
          go_wp2_with (first
            | (go_at_call 50; (with_reducible refine TQ.out.mono ?_); rintro e w7 ⟨rfl, rfl⟩)
            | (go_at_call 50; (with_reducible refine TR.out.mono ?_); rintro e w7 ⟨rfl, rfl⟩))
          have hK' := hE.2.2.2.2.1
          have hfin : ∀ (A : Option Addr) (n c : Nat) (L : List Nat), Sl wr (W.heap.size + 1) A n c L → Sl (wr.putObj D (.deferred none)) (wr.putObj D (.deferred none)).heap.size A n c L := fun A n c L h => sl_putObj h hK' rfl (by omega)
          have hB9 : Below w.heap.size w (wr.putObj D (.deferred none)) := hE.2.2.2.2.2.trans (belowK_b (w := W0) (by have := hBc.size; omega) wr D _ _ hD hK' rfl rfl)
          refine ⟨by simp, .inl ⟨_, _, rfl, run_takeDeferred hK', ?_⟩⟩
          refine ⟨_, results_tmp2 rfl _ _ _, _, _, _, _, _, _, rfl, ?_, ?_, ?_⟩
          · exact hfin _ _ _ _ VQ.out
          · exact hfin _ _ _ _ VR.out
          · exact hB9
    case stop =>
      rintro D c pre W _ _ h _
      exact h.elim
end Go.Proofs.YthnickjbknpmhaaGreatDoor
