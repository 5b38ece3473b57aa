/-
  Merged: RtI, RtJ.
-/
import Derived.Test.YtccjiodohphgnaaGreatDoorMgP
import Derived.Test.YtccjiodohphgnaaGreatDoorMgI
import Derived.Lib.IndexBytes
namespace Go.Proofs.YtccjiodohphgnaaGreatDoor
open Go.RowKit Go.Shelf

/-- The library's variable bytealg.MaxLen holds some int. -/
def MaxT (W : World) : Prop := ∃ m : Int, W.cell? ⟨1, 0, none⟩ = some (.int .i64 m)
theorem oka2 {p q : PSh} {vs : List Value} {W : World} {D : Dat} (h : oka [p, q] vs W D) : ∃ v u, vs = [v, u] ∧ p.ok v W D ∧ q.ok u W D := by
  match vs, h with
  | [v, u], h => exact ⟨v, u, rfl, h.1, h.2.1⟩
  | [], h => exact h.elim
  | [_], h => exact h.2.elim
  | _ :: _ :: _ :: _, h => exact h.2.2.elim
theorem f_cut {w0 : World} (hM : ∀ W, Below w0.heap.size w0 W → MaxT W) (s p a b : List UInt8) (o : Bool) (ha : (Lib.cut s p).1 = a) (hb : (Lib.cut s p).2.1 = b) (ho : (Lib.cut s p).2.2 = o) (hl : s.length < 4294967281) : Fun (KN w0) Tryz.prog 69 [.o (.c (pS s)), .o (.c (pS p))] (.t [.c (pS a), .c (pS b), .c (pB o)]) := by
  subst ha; subst hb; subst ho
  intro W D vs hs hf
  obtain ⟨v, u, rfl, hv, hu⟩ := oka2 hs
  have e : v = .string (bs s) := hv
  have e2 : u = .string (bs p) := hu
  subst e; subst e2
  obtain ⟨m, hm⟩ := hM W hf.bel
  refine (Tryz.strings_Cut (bs s) (bs p) m W hl hm).mono fun e W' hr => ?_
  obtain ⟨rfl, n, rfl⟩ := hr
  exact ⟨_, D, rfl, ⟨_, rfl, rfl, rfl, rfl, trivial⟩, Kept.of hf ((Below.refl _ _).trans ⟨rfl, rfl, rfl, Nat.le_refl _, fun _ _ => rfl⟩)⟩
/-- Where the first slash is; the length, if there is none. -/
def slashAt (s : List UInt8) : Nat := s.findIdx (· == 47)
def aboveR (s : List UInt8) : List UInt8 := s.take (slashAt s)
def belowR (s : List UInt8) : List UInt8 := if slashAt s < s.length then s.drop (slashAt s + 1) else [49]
theorem slash_le (s : List UInt8) : slashAt s ≤ s.length := List.findIdx_le_length
theorem index_slash : ∀ s : List UInt8, Lib.index s [47] = if slashAt s < s.length then (slashAt s : Int) else -1
  | [] => by simp [Lib.index, slashAt]
  | c :: s => by
    have ih := index_slash s
    unfold Lib.index slashAt
    rw [List.findIdx_cons]
    by_cases hc : c = 47
    · subst hc; simp [List.isPrefixOf]
    · have h1 : ([47] : List UInt8).isPrefixOf (c :: s) = false := by simp [List.isPrefixOf]; exact fun h => hc h.symm
      have h2 : (c == 47) = false := by simp [hc]
      rw [h1, h2, ih]
      show (if _ then _ else _) = _
      simp only [cond_false, List.length_cons, Nat.add_lt_add_iff_right, Bool.false_eq_true, if_false]
      show _ = if slashAt s < s.length then ((slashAt s + 1 : Nat) : Int) else -1
      by_cases h : slashAt s < s.length
      · rw [if_pos h, if_pos h, if_neg (by rw [beq_iff_eq]; omega)]; omega
      · rw [if_neg h, if_neg h]; try rfl
theorem cut_slash (s : List UInt8) : (Lib.cut s [47]).1 = aboveR s ∧ (Lib.cut s [47]).2.2 = decide (slashAt s < s.length) ∧ ((Lib.cut s [47]).2.2 = true → (Lib.cut s [47]).2.1 = belowR s) ∧ ((Lib.cut s [47]).2.2 = false → belowR s = [49]) := by
  unfold Lib.cut aboveR belowR
  rw [index_slash]
  by_cases h : slashAt s < s.length
  · rw [if_pos h, if_pos (by omega)]; simp [h]
  · have := slash_le s
    rw [if_neg h, if_neg (by decide)]
    have e : s.take (slashAt s) = s := List.take_of_length_le (by omega)
    simp [h, e]
def rawP (s : List UInt8) : RR := (nz (vO (parseS (aboveR s))), nz (vO (parseS (belowR s))))
def okP (s : List UInt8) : Bool := okO (parseS (aboveR s)) && okO (parseS (belowR s)) && rrX (rawP s).1 (rawP s).2 && (textR (rawP s) == s)
def parR (s : List UInt8) : RR := if okP s = true then rawP s else rq none
theorem f_rparse_p0 {w0 : World} (s : (List UInt8))(hM : ∀ W, Below w0.heap.size w0 W → MaxT W) (hTS : ∀ W, Below w0.heap.size w0 W → PowT w0.heap.size W ∧ SynT w0.heap.size W) (v1 : (List UInt8)) (v2 : (List UInt8)) (v3 : Bool) (v5 : Bool) (v7 : Raw) (v8 : Bool) (v9 : Raw) (v10 : Bool) (v13 : Bool) (v15 : (List UInt8)) (v16 : Bool) (e1 : ((Lib.cut s [47]).1) = v1) (e2 : ((Lib.cut s [47]).2.1) = v2) (e3 : ((Lib.cut s [47]).2.2) = v3) (e5 : (!v3) = v5) (e7 : (nz (vO (parseS v1))) = v7) (e8 : (okO (parseS v1)) = v8) (e9 : (nz (vO (parseS [49]))) = v9) (e10 : (okO (parseS [49])) = v10) (e13 : (rrX (v7, v9).1 (v7, v9).2) = v13) (e15 : (textR (v7, v9)) = v15) (e16 : (((v15 : List UInt8) == s)) = v16) (s4 : (s : List UInt8).length < 4294967281) (h6 : v5 = true) (h11 : v8 = true) (h12 : v10 = true) (h14 : v13 = true) (h17 : v16 = true) : Fun (KN w0) Tryz.prog 28 [.o (.c (pS s))] (.t [.g [pB v7.1, pD v7.2, pB v9.1, pD v9.2], .c (pV (.bool true))]) :=
  con_fun (con_ok (F := FL [pS s, pS v1, pS v2, pB v3, pB v5, pB v7.1, pD v7.2, pB v8, pB v9.1, pD v9.2, pB v10, pB v13, pS v15, pB v16] []) (C := [(1000003, .call ⟨69, [.o (.c (.h 0)), .o (.c (.k (.string ⟨#[47]⟩)))], [], .t [.c (.h 1), .c (.h 2), .c (.h 3)], []⟩),
    (1000012, .un .not (LF (.h 3)) (LF (.h 4))),
    (10004, .fb 4 true),
    (1000015, .call ⟨70, [.o (.c (.h 1))], [], .t [.g [.h 5, .h 6], .c (.h 7)], []⟩),
    (1000023, .call ⟨70, [.o (.c (.k (.string ⟨#[49]⟩)))], [], .t [.g [.h 8, .h 9], .c (.h 10)], []⟩),
    (10007, .fb 7 true),
    (10010, .fb 10 true),
    (1000041, .call ⟨43, [.o (.g [.h 5, .h 6, .h 8, .h 9])], [], .o (.c (.h 11)), []⟩),
    (10011, .fb 11 true),
    (1000045, .call ⟨27, [.o (.g [.h 5, .h 6, .h 8, .h 9])], [], .o (.c (.h 12)), []⟩),
    (1000047, .bin .eql 9 (LF (.h 12)) (LF (.h 0)) (LF (.h 13))),
    (10013, .fb 13 true)]) (k := ⟨28, [.o (.c (.h 0))], [], .t [.g [.h 5, .h 6, .h 8, .h 9], .c (.k (.bool true))], []⟩) 0 (fine_FL ⟨fine_v rfl, fine_v rfl, fine_v rfl, fine_v rfl, fine_v rfl, fine_v rfl, fine_D, fine_v rfl, fine_v rfl, fine_D, fine_v rfl, fine_v rfl, fine_v rfl, fine_v rfl, trivial⟩) ⟨fun_con (f_cut hM s [47] v1 v2 v3 e1 e2 e3 s4) rfl rfl rfl rfl,
    e_un (gives_h rfl) (gives_h rfl) (fun W => by rw [← e5]; exact r_not W),
    e_fb (show pV (.bool v5) = _ by rw [h6]),
    fun_con (f_parse hTS v1 v7 v8 e7 e8) rfl rfl rfl rfl,
    fun_con (f_parse hTS [49] v9 v10 e9 e10) rfl rfl rfl rfl,
    e_fb (show pV (.bool v8) = _ by rw [h11]),
    e_fb (show pV (.bool v10) = _ by rw [h12]),
    fun_con (f_rright (v7, v9) v13 e13) rfl rfl rfl rfl,
    e_fb (show pV (.bool v13) = _ by rw [h14]),
    fun_con (f_rtext (fun W h => (hTS W h).1) (v7, v9) v15 e15) rfl rfl rfl rfl,
    e_bin (gives_h rfl) (gives_h rfl) (gives_h rfl) (fun W X Y => by rw [← e16]; exact r_seq W X Y),
    e_fb (show pV (.bool v16) = _ by rw [h17]),
    trivial⟩ mixed (by kernel_rfl)) rfl rfl rfl rfl
theorem f_rparse_p1 {w0 : World} (s : (List UInt8))(hM : ∀ W, Below w0.heap.size w0 W → MaxT W) (hTS : ∀ W, Below w0.heap.size w0 W → PowT w0.heap.size W ∧ SynT w0.heap.size W) (v1 : (List UInt8)) (v2 : (List UInt8)) (v3 : Bool) (v5 : Bool) (v7 : Raw) (v8 : Bool) (v9 : Raw) (v10 : Bool) (v13 : Bool) (v15 : (List UInt8)) (v16 : Bool) (e1 : ((Lib.cut s [47]).1) = v1) (e2 : ((Lib.cut s [47]).2.1) = v2) (e3 : ((Lib.cut s [47]).2.2) = v3) (e5 : (!v3) = v5) (e7 : (nz (vO (parseS v1))) = v7) (e8 : (okO (parseS v1)) = v8) (e9 : (nz (vO (parseS [49]))) = v9) (e10 : (okO (parseS [49])) = v10) (e13 : (rrX (v7, v9).1 (v7, v9).2) = v13) (e15 : (textR (v7, v9)) = v15) (e16 : (((v15 : List UInt8) == s)) = v16) (s4 : (s : List UInt8).length < 4294967281) (h6 : v5 = true) (h11 : v8 = true) (h12 : v10 = true) (h14 : v13 = true) (h17 : v16 = false) : Fun (KN w0) Tryz.prog 28 [.o (.c (pS s))] (.t [.g [pV (.bool false), pV (.slice none 0 0), pV (.bool false), pV (.slice none 0 0)], .c (pV (.bool false))]) :=
  con_fun (con_ok (F := FL [pS s, pS v1, pS v2, pB v3, pB v5, pB v7.1, pD v7.2, pB v8, pB v9.1, pD v9.2, pB v10, pB v13, pS v15, pB v16] []) (C := [(1000003, .call ⟨69, [.o (.c (.h 0)), .o (.c (.k (.string ⟨#[47]⟩)))], [], .t [.c (.h 1), .c (.h 2), .c (.h 3)], []⟩),
    (1000012, .un .not (LF (.h 3)) (LF (.h 4))),
    (10004, .fb 4 true),
    (1000015, .call ⟨70, [.o (.c (.h 1))], [], .t [.g [.h 5, .h 6], .c (.h 7)], []⟩),
    (1000023, .call ⟨70, [.o (.c (.k (.string ⟨#[49]⟩)))], [], .t [.g [.h 8, .h 9], .c (.h 10)], []⟩),
    (10007, .fb 7 true),
    (10010, .fb 10 true),
    (1000041, .call ⟨43, [.o (.g [.h 5, .h 6, .h 8, .h 9])], [], .o (.c (.h 11)), []⟩),
    (10011, .fb 11 true),
    (1000045, .call ⟨27, [.o (.g [.h 5, .h 6, .h 8, .h 9])], [], .o (.c (.h 12)), []⟩),
    (1000047, .bin .eql 9 (LF (.h 12)) (LF (.h 0)) (LF (.h 13))),
    (10013, .fb 13 false)]) (k := ⟨28, [.o (.c (.h 0))], [], .t [.g [.k (.bool false), .k (.slice none 0 0), .k (.bool false), .k (.slice none 0 0)], .c (.k (.bool false))], []⟩) 0 (fine_FL ⟨fine_v rfl, fine_v rfl, fine_v rfl, fine_v rfl, fine_v rfl, fine_v rfl, fine_D, fine_v rfl, fine_v rfl, fine_D, fine_v rfl, fine_v rfl, fine_v rfl, fine_v rfl, trivial⟩) ⟨fun_con (f_cut hM s [47] v1 v2 v3 e1 e2 e3 s4) rfl rfl rfl rfl,
    e_un (gives_h rfl) (gives_h rfl) (fun W => by rw [← e5]; exact r_not W),
    e_fb (show pV (.bool v5) = _ by rw [h6]),
    fun_con (f_parse hTS v1 v7 v8 e7 e8) rfl rfl rfl rfl,
    fun_con (f_parse hTS [49] v9 v10 e9 e10) rfl rfl rfl rfl,
    e_fb (show pV (.bool v8) = _ by rw [h11]),
    e_fb (show pV (.bool v10) = _ by rw [h12]),
    fun_con (f_rright (v7, v9) v13 e13) rfl rfl rfl rfl,
    e_fb (show pV (.bool v13) = _ by rw [h14]),
    fun_con (f_rtext (fun W h => (hTS W h).1) (v7, v9) v15 e15) rfl rfl rfl rfl,
    e_bin (gives_h rfl) (gives_h rfl) (gives_h rfl) (fun W X Y => by rw [← e16]; exact r_seq W X Y),
    e_fb (show pV (.bool v16) = _ by rw [h17]),
    trivial⟩ mixed (by kernel_rfl)) rfl rfl rfl rfl
theorem f_rparse_p2 {w0 : World} (s : (List UInt8))(hM : ∀ W, Below w0.heap.size w0 W → MaxT W) (hTS : ∀ W, Below w0.heap.size w0 W → PowT w0.heap.size W ∧ SynT w0.heap.size W) (v1 : (List UInt8)) (v2 : (List UInt8)) (v3 : Bool) (v5 : Bool) (v7 : Raw) (v8 : Bool) (v9 : Raw) (v10 : Bool) (v13 : Bool) (e1 : ((Lib.cut s [47]).1) = v1) (e2 : ((Lib.cut s [47]).2.1) = v2) (e3 : ((Lib.cut s [47]).2.2) = v3) (e5 : (!v3) = v5) (e7 : (nz (vO (parseS v1))) = v7) (e8 : (okO (parseS v1)) = v8) (e9 : (nz (vO (parseS [49]))) = v9) (e10 : (okO (parseS [49])) = v10) (e13 : (rrX (v7, v9).1 (v7, v9).2) = v13) (s4 : (s : List UInt8).length < 4294967281) (h6 : v5 = true) (h11 : v8 = true) (h12 : v10 = true) (h14 : v13 = false) : Fun (KN w0) Tryz.prog 28 [.o (.c (pS s))] (.t [.g [pV (.bool false), pV (.slice none 0 0), pV (.bool false), pV (.slice none 0 0)], .c (pV (.bool false))]) :=
  con_fun (con_ok (F := FL [pS s, pS v1, pS v2, pB v3, pB v5, pB v7.1, pD v7.2, pB v8, pB v9.1, pD v9.2, pB v10, pB v13] []) (C := [(1000003, .call ⟨69, [.o (.c (.h 0)), .o (.c (.k (.string ⟨#[47]⟩)))], [], .t [.c (.h 1), .c (.h 2), .c (.h 3)], []⟩),
    (1000012, .un .not (LF (.h 3)) (LF (.h 4))),
    (10004, .fb 4 true),
    (1000015, .call ⟨70, [.o (.c (.h 1))], [], .t [.g [.h 5, .h 6], .c (.h 7)], []⟩),
    (1000023, .call ⟨70, [.o (.c (.k (.string ⟨#[49]⟩)))], [], .t [.g [.h 8, .h 9], .c (.h 10)], []⟩),
    (10007, .fb 7 true),
    (10010, .fb 10 true),
    (1000041, .call ⟨43, [.o (.g [.h 5, .h 6, .h 8, .h 9])], [], .o (.c (.h 11)), []⟩),
    (10011, .fb 11 false)]) (k := ⟨28, [.o (.c (.h 0))], [], .t [.g [.k (.bool false), .k (.slice none 0 0), .k (.bool false), .k (.slice none 0 0)], .c (.k (.bool false))], []⟩) 0 (fine_FL ⟨fine_v rfl, fine_v rfl, fine_v rfl, fine_v rfl, fine_v rfl, fine_v rfl, fine_D, fine_v rfl, fine_v rfl, fine_D, fine_v rfl, fine_v rfl, trivial⟩) ⟨fun_con (f_cut hM s [47] v1 v2 v3 e1 e2 e3 s4) rfl rfl rfl rfl,
    e_un (gives_h rfl) (gives_h rfl) (fun W => by rw [← e5]; exact r_not W),
    e_fb (show pV (.bool v5) = _ by rw [h6]),
    fun_con (f_parse hTS v1 v7 v8 e7 e8) rfl rfl rfl rfl,
    fun_con (f_parse hTS [49] v9 v10 e9 e10) rfl rfl rfl rfl,
    e_fb (show pV (.bool v8) = _ by rw [h11]),
    e_fb (show pV (.bool v10) = _ by rw [h12]),
    fun_con (f_rright (v7, v9) v13 e13) rfl rfl rfl rfl,
    e_fb (show pV (.bool v13) = _ by rw [h14]),
    trivial⟩ mixed (by kernel_rfl)) rfl rfl rfl rfl
theorem f_rparse_p3 {w0 : World} (s : (List UInt8))(hM : ∀ W, Below w0.heap.size w0 W → MaxT W) (hTS : ∀ W, Below w0.heap.size w0 W → PowT w0.heap.size W ∧ SynT w0.heap.size W) (v1 : (List UInt8)) (v2 : (List UInt8)) (v3 : Bool) (v5 : Bool) (v7 : Raw) (v8 : Bool) (v9 : Raw) (v10 : Bool) (e1 : ((Lib.cut s [47]).1) = v1) (e2 : ((Lib.cut s [47]).2.1) = v2) (e3 : ((Lib.cut s [47]).2.2) = v3) (e5 : (!v3) = v5) (e7 : (nz (vO (parseS v1))) = v7) (e8 : (okO (parseS v1)) = v8) (e9 : (nz (vO (parseS [49]))) = v9) (e10 : (okO (parseS [49])) = v10) (s4 : (s : List UInt8).length < 4294967281) (h6 : v5 = true) (h11 : v8 = true) (h12 : v10 = false) : Fun (KN w0) Tryz.prog 28 [.o (.c (pS s))] (.t [.g [pV (.bool false), pV (.slice none 0 0), pV (.bool false), pV (.slice none 0 0)], .c (pV (.bool false))]) :=
  con_fun (con_ok (F := FL [pS s, pS v1, pS v2, pB v3, pB v5, pB v7.1, pD v7.2, pB v8, pB v9.1, pD v9.2, pB v10] []) (C := [(1000003, .call ⟨69, [.o (.c (.h 0)), .o (.c (.k (.string ⟨#[47]⟩)))], [], .t [.c (.h 1), .c (.h 2), .c (.h 3)], []⟩),
    (1000012, .un .not (LF (.h 3)) (LF (.h 4))),
    (10004, .fb 4 true),
    (1000015, .call ⟨70, [.o (.c (.h 1))], [], .t [.g [.h 5, .h 6], .c (.h 7)], []⟩),
    (1000023, .call ⟨70, [.o (.c (.k (.string ⟨#[49]⟩)))], [], .t [.g [.h 8, .h 9], .c (.h 10)], []⟩),
    (10007, .fb 7 true),
    (10010, .fb 10 false)]) (k := ⟨28, [.o (.c (.h 0))], [], .t [.g [.k (.bool false), .k (.slice none 0 0), .k (.bool false), .k (.slice none 0 0)], .c (.k (.bool false))], []⟩) 0 (fine_FL ⟨fine_v rfl, fine_v rfl, fine_v rfl, fine_v rfl, fine_v rfl, fine_v rfl, fine_D, fine_v rfl, fine_v rfl, fine_D, fine_v rfl, trivial⟩) ⟨fun_con (f_cut hM s [47] v1 v2 v3 e1 e2 e3 s4) rfl rfl rfl rfl,
    e_un (gives_h rfl) (gives_h rfl) (fun W => by rw [← e5]; exact r_not W),
    e_fb (show pV (.bool v5) = _ by rw [h6]),
    fun_con (f_parse hTS v1 v7 v8 e7 e8) rfl rfl rfl rfl,
    fun_con (f_parse hTS [49] v9 v10 e9 e10) rfl rfl rfl rfl,
    e_fb (show pV (.bool v8) = _ by rw [h11]),
    e_fb (show pV (.bool v10) = _ by rw [h12]),
    trivial⟩ mixed (by kernel_rfl)) rfl rfl rfl rfl
theorem f_rparse_p4 {w0 : World} (s : (List UInt8))(hM : ∀ W, Below w0.heap.size w0 W → MaxT W) (hTS : ∀ W, Below w0.heap.size w0 W → PowT w0.heap.size W ∧ SynT w0.heap.size W) (v1 : (List UInt8)) (v2 : (List UInt8)) (v3 : Bool) (v5 : Bool) (v7 : Raw) (v8 : Bool) (v9 : Raw) (v10 : Bool) (e1 : ((Lib.cut s [47]).1) = v1) (e2 : ((Lib.cut s [47]).2.1) = v2) (e3 : ((Lib.cut s [47]).2.2) = v3) (e5 : (!v3) = v5) (e7 : (nz (vO (parseS v1))) = v7) (e8 : (okO (parseS v1)) = v8) (e9 : (nz (vO (parseS [49]))) = v9) (e10 : (okO (parseS [49])) = v10) (s4 : (s : List UInt8).length < 4294967281) (h6 : v5 = true) (h11 : v8 = false) : Fun (KN w0) Tryz.prog 28 [.o (.c (pS s))] (.t [.g [pV (.bool false), pV (.slice none 0 0), pV (.bool false), pV (.slice none 0 0)], .c (pV (.bool false))]) :=
  con_fun (con_ok (F := FL [pS s, pS v1, pS v2, pB v3, pB v5, pB v7.1, pD v7.2, pB v8, pB v9.1, pD v9.2, pB v10] []) (C := [(1000003, .call ⟨69, [.o (.c (.h 0)), .o (.c (.k (.string ⟨#[47]⟩)))], [], .t [.c (.h 1), .c (.h 2), .c (.h 3)], []⟩),
    (1000012, .un .not (LF (.h 3)) (LF (.h 4))),
    (10004, .fb 4 true),
    (1000015, .call ⟨70, [.o (.c (.h 1))], [], .t [.g [.h 5, .h 6], .c (.h 7)], []⟩),
    (1000023, .call ⟨70, [.o (.c (.k (.string ⟨#[49]⟩)))], [], .t [.g [.h 8, .h 9], .c (.h 10)], []⟩),
    (10007, .fb 7 false)]) (k := ⟨28, [.o (.c (.h 0))], [], .t [.g [.k (.bool false), .k (.slice none 0 0), .k (.bool false), .k (.slice none 0 0)], .c (.k (.bool false))], []⟩) 0 (fine_FL ⟨fine_v rfl, fine_v rfl, fine_v rfl, fine_v rfl, fine_v rfl, fine_v rfl, fine_D, fine_v rfl, fine_v rfl, fine_D, fine_v rfl, trivial⟩) ⟨fun_con (f_cut hM s [47] v1 v2 v3 e1 e2 e3 s4) rfl rfl rfl rfl,
    e_un (gives_h rfl) (gives_h rfl) (fun W => by rw [← e5]; exact r_not W),
    e_fb (show pV (.bool v5) = _ by rw [h6]),
    fun_con (f_parse hTS v1 v7 v8 e7 e8) rfl rfl rfl rfl,
    fun_con (f_parse hTS [49] v9 v10 e9 e10) rfl rfl rfl rfl,
    e_fb (show pV (.bool v8) = _ by rw [h11]),
    trivial⟩ mixed (by kernel_rfl)) rfl rfl rfl rfl
theorem f_rparse_p5 {w0 : World} (s : (List UInt8))(hM : ∀ W, Below w0.heap.size w0 W → MaxT W) (hTS : ∀ W, Below w0.heap.size w0 W → PowT w0.heap.size W ∧ SynT w0.heap.size W) (v1 : (List UInt8)) (v2 : (List UInt8)) (v3 : Bool) (v5 : Bool) (v7 : Raw) (v8 : Bool) (v9 : Raw) (v10 : Bool) (v13 : Bool) (v15 : (List UInt8)) (v16 : Bool) (e1 : ((Lib.cut s [47]).1) = v1) (e2 : ((Lib.cut s [47]).2.1) = v2) (e3 : ((Lib.cut s [47]).2.2) = v3) (e5 : (!v3) = v5) (e7 : (nz (vO (parseS v1))) = v7) (e8 : (okO (parseS v1)) = v8) (e9 : (nz (vO (parseS v2))) = v9) (e10 : (okO (parseS v2)) = v10) (e13 : (rrX (v7, v9).1 (v7, v9).2) = v13) (e15 : (textR (v7, v9)) = v15) (e16 : (((v15 : List UInt8) == s)) = v16) (s4 : (s : List UInt8).length < 4294967281) (h6 : v5 = false) (h11 : v8 = true) (h12 : v10 = true) (h14 : v13 = true) (h17 : v16 = true) : Fun (KN w0) Tryz.prog 28 [.o (.c (pS s))] (.t [.g [pB v7.1, pD v7.2, pB v9.1, pD v9.2], .c (pV (.bool true))]) :=
  con_fun (con_ok (F := FL [pS s, pS v1, pS v2, pB v3, pB v5, pB v7.1, pD v7.2, pB v8, pB v9.1, pD v9.2, pB v10, pB v13, pS v15, pB v16] []) (C := [(1000003, .call ⟨69, [.o (.c (.h 0)), .o (.c (.k (.string ⟨#[47]⟩)))], [], .t [.c (.h 1), .c (.h 2), .c (.h 3)], []⟩),
    (1000012, .un .not (LF (.h 3)) (LF (.h 4))),
    (10004, .fb 4 false),
    (1000014, .call ⟨70, [.o (.c (.h 1))], [], .t [.g [.h 5, .h 6], .c (.h 7)], []⟩),
    (1000022, .call ⟨70, [.o (.c (.h 2))], [], .t [.g [.h 8, .h 9], .c (.h 10)], []⟩),
    (10007, .fb 7 true),
    (10010, .fb 10 true),
    (1000040, .call ⟨43, [.o (.g [.h 5, .h 6, .h 8, .h 9])], [], .o (.c (.h 11)), []⟩),
    (10011, .fb 11 true),
    (1000044, .call ⟨27, [.o (.g [.h 5, .h 6, .h 8, .h 9])], [], .o (.c (.h 12)), []⟩),
    (1000046, .bin .eql 9 (LF (.h 12)) (LF (.h 0)) (LF (.h 13))),
    (10013, .fb 13 true)]) (k := ⟨28, [.o (.c (.h 0))], [], .t [.g [.h 5, .h 6, .h 8, .h 9], .c (.k (.bool true))], []⟩) 0 (fine_FL ⟨fine_v rfl, fine_v rfl, fine_v rfl, fine_v rfl, fine_v rfl, fine_v rfl, fine_D, fine_v rfl, fine_v rfl, fine_D, fine_v rfl, fine_v rfl, fine_v rfl, fine_v rfl, trivial⟩) ⟨fun_con (f_cut hM s [47] v1 v2 v3 e1 e2 e3 s4) rfl rfl rfl rfl,
    e_un (gives_h rfl) (gives_h rfl) (fun W => by rw [← e5]; exact r_not W),
    e_fb (show pV (.bool v5) = _ by rw [h6]),
    fun_con (f_parse hTS v1 v7 v8 e7 e8) rfl rfl rfl rfl,
    fun_con (f_parse hTS v2 v9 v10 e9 e10) rfl rfl rfl rfl,
    e_fb (show pV (.bool v8) = _ by rw [h11]),
    e_fb (show pV (.bool v10) = _ by rw [h12]),
    fun_con (f_rright (v7, v9) v13 e13) rfl rfl rfl rfl,
    e_fb (show pV (.bool v13) = _ by rw [h14]),
    fun_con (f_rtext (fun W h => (hTS W h).1) (v7, v9) v15 e15) rfl rfl rfl rfl,
    e_bin (gives_h rfl) (gives_h rfl) (gives_h rfl) (fun W X Y => by rw [← e16]; exact r_seq W X Y),
    e_fb (show pV (.bool v16) = _ by rw [h17]),
    trivial⟩ mixed (by kernel_rfl)) rfl rfl rfl rfl
theorem f_rparse_p6 {w0 : World} (s : (List UInt8))(hM : ∀ W, Below w0.heap.size w0 W → MaxT W) (hTS : ∀ W, Below w0.heap.size w0 W → PowT w0.heap.size W ∧ SynT w0.heap.size W) (v1 : (List UInt8)) (v2 : (List UInt8)) (v3 : Bool) (v5 : Bool) (v7 : Raw) (v8 : Bool) (v9 : Raw) (v10 : Bool) (v13 : Bool) (v15 : (List UInt8)) (v16 : Bool) (e1 : ((Lib.cut s [47]).1) = v1) (e2 : ((Lib.cut s [47]).2.1) = v2) (e3 : ((Lib.cut s [47]).2.2) = v3) (e5 : (!v3) = v5) (e7 : (nz (vO (parseS v1))) = v7) (e8 : (okO (parseS v1)) = v8) (e9 : (nz (vO (parseS v2))) = v9) (e10 : (okO (parseS v2)) = v10) (e13 : (rrX (v7, v9).1 (v7, v9).2) = v13) (e15 : (textR (v7, v9)) = v15) (e16 : (((v15 : List UInt8) == s)) = v16) (s4 : (s : List UInt8).length < 4294967281) (h6 : v5 = false) (h11 : v8 = true) (h12 : v10 = true) (h14 : v13 = true) (h17 : v16 = false) : Fun (KN w0) Tryz.prog 28 [.o (.c (pS s))] (.t [.g [pV (.bool false), pV (.slice none 0 0), pV (.bool false), pV (.slice none 0 0)], .c (pV (.bool false))]) :=
  con_fun (con_ok (F := FL [pS s, pS v1, pS v2, pB v3, pB v5, pB v7.1, pD v7.2, pB v8, pB v9.1, pD v9.2, pB v10, pB v13, pS v15, pB v16] []) (C := [(1000003, .call ⟨69, [.o (.c (.h 0)), .o (.c (.k (.string ⟨#[47]⟩)))], [], .t [.c (.h 1), .c (.h 2), .c (.h 3)], []⟩),
    (1000012, .un .not (LF (.h 3)) (LF (.h 4))),
    (10004, .fb 4 false),
    (1000014, .call ⟨70, [.o (.c (.h 1))], [], .t [.g [.h 5, .h 6], .c (.h 7)], []⟩),
    (1000022, .call ⟨70, [.o (.c (.h 2))], [], .t [.g [.h 8, .h 9], .c (.h 10)], []⟩),
    (10007, .fb 7 true),
    (10010, .fb 10 true),
    (1000040, .call ⟨43, [.o (.g [.h 5, .h 6, .h 8, .h 9])], [], .o (.c (.h 11)), []⟩),
    (10011, .fb 11 true),
    (1000044, .call ⟨27, [.o (.g [.h 5, .h 6, .h 8, .h 9])], [], .o (.c (.h 12)), []⟩),
    (1000046, .bin .eql 9 (LF (.h 12)) (LF (.h 0)) (LF (.h 13))),
    (10013, .fb 13 false)]) (k := ⟨28, [.o (.c (.h 0))], [], .t [.g [.k (.bool false), .k (.slice none 0 0), .k (.bool false), .k (.slice none 0 0)], .c (.k (.bool false))], []⟩) 0 (fine_FL ⟨fine_v rfl, fine_v rfl, fine_v rfl, fine_v rfl, fine_v rfl, fine_v rfl, fine_D, fine_v rfl, fine_v rfl, fine_D, fine_v rfl, fine_v rfl, fine_v rfl, fine_v rfl, trivial⟩) ⟨fun_con (f_cut hM s [47] v1 v2 v3 e1 e2 e3 s4) rfl rfl rfl rfl,
    e_un (gives_h rfl) (gives_h rfl) (fun W => by rw [← e5]; exact r_not W),
    e_fb (show pV (.bool v5) = _ by rw [h6]),
    fun_con (f_parse hTS v1 v7 v8 e7 e8) rfl rfl rfl rfl,
    fun_con (f_parse hTS v2 v9 v10 e9 e10) rfl rfl rfl rfl,
    e_fb (show pV (.bool v8) = _ by rw [h11]),
    e_fb (show pV (.bool v10) = _ by rw [h12]),
    fun_con (f_rright (v7, v9) v13 e13) rfl rfl rfl rfl,
    e_fb (show pV (.bool v13) = _ by rw [h14]),
    fun_con (f_rtext (fun W h => (hTS W h).1) (v7, v9) v15 e15) rfl rfl rfl rfl,
    e_bin (gives_h rfl) (gives_h rfl) (gives_h rfl) (fun W X Y => by rw [← e16]; exact r_seq W X Y),
    e_fb (show pV (.bool v16) = _ by rw [h17]),
    trivial⟩ mixed (by kernel_rfl)) rfl rfl rfl rfl
theorem f_rparse_p7 {w0 : World} (s : (List UInt8))(hM : ∀ W, Below w0.heap.size w0 W → MaxT W) (hTS : ∀ W, Below w0.heap.size w0 W → PowT w0.heap.size W ∧ SynT w0.heap.size W) (v1 : (List UInt8)) (v2 : (List UInt8)) (v3 : Bool) (v5 : Bool) (v7 : Raw) (v8 : Bool) (v9 : Raw) (v10 : Bool) (v13 : Bool) (e1 : ((Lib.cut s [47]).1) = v1) (e2 : ((Lib.cut s [47]).2.1) = v2) (e3 : ((Lib.cut s [47]).2.2) = v3) (e5 : (!v3) = v5) (e7 : (nz (vO (parseS v1))) = v7) (e8 : (okO (parseS v1)) = v8) (e9 : (nz (vO (parseS v2))) = v9) (e10 : (okO (parseS v2)) = v10) (e13 : (rrX (v7, v9).1 (v7, v9).2) = v13) (s4 : (s : List UInt8).length < 4294967281) (h6 : v5 = false) (h11 : v8 = true) (h12 : v10 = true) (h14 : v13 = false) : Fun (KN w0) Tryz.prog 28 [.o (.c (pS s))] (.t [.g [pV (.bool false), pV (.slice none 0 0), pV (.bool false), pV (.slice none 0 0)], .c (pV (.bool false))]) :=
  con_fun (con_ok (F := FL [pS s, pS v1, pS v2, pB v3, pB v5, pB v7.1, pD v7.2, pB v8, pB v9.1, pD v9.2, pB v10, pB v13] []) (C := [(1000003, .call ⟨69, [.o (.c (.h 0)), .o (.c (.k (.string ⟨#[47]⟩)))], [], .t [.c (.h 1), .c (.h 2), .c (.h 3)], []⟩),
    (1000012, .un .not (LF (.h 3)) (LF (.h 4))),
    (10004, .fb 4 false),
    (1000014, .call ⟨70, [.o (.c (.h 1))], [], .t [.g [.h 5, .h 6], .c (.h 7)], []⟩),
    (1000022, .call ⟨70, [.o (.c (.h 2))], [], .t [.g [.h 8, .h 9], .c (.h 10)], []⟩),
    (10007, .fb 7 true),
    (10010, .fb 10 true),
    (1000040, .call ⟨43, [.o (.g [.h 5, .h 6, .h 8, .h 9])], [], .o (.c (.h 11)), []⟩),
    (10011, .fb 11 false)]) (k := ⟨28, [.o (.c (.h 0))], [], .t [.g [.k (.bool false), .k (.slice none 0 0), .k (.bool false), .k (.slice none 0 0)], .c (.k (.bool false))], []⟩) 0 (fine_FL ⟨fine_v rfl, fine_v rfl, fine_v rfl, fine_v rfl, fine_v rfl, fine_v rfl, fine_D, fine_v rfl, fine_v rfl, fine_D, fine_v rfl, fine_v rfl, trivial⟩) ⟨fun_con (f_cut hM s [47] v1 v2 v3 e1 e2 e3 s4) rfl rfl rfl rfl,
    e_un (gives_h rfl) (gives_h rfl) (fun W => by rw [← e5]; exact r_not W),
    e_fb (show pV (.bool v5) = _ by rw [h6]),
    fun_con (f_parse hTS v1 v7 v8 e7 e8) rfl rfl rfl rfl,
    fun_con (f_parse hTS v2 v9 v10 e9 e10) rfl rfl rfl rfl,
    e_fb (show pV (.bool v8) = _ by rw [h11]),
    e_fb (show pV (.bool v10) = _ by rw [h12]),
    fun_con (f_rright (v7, v9) v13 e13) rfl rfl rfl rfl,
    e_fb (show pV (.bool v13) = _ by rw [h14]),
    trivial⟩ mixed (by kernel_rfl)) rfl rfl rfl rfl
theorem f_rparse_p8 {w0 : World} (s : (List UInt8))(hM : ∀ W, Below w0.heap.size w0 W → MaxT W) (hTS : ∀ W, Below w0.heap.size w0 W → PowT w0.heap.size W ∧ SynT w0.heap.size W) (v1 : (List UInt8)) (v2 : (List UInt8)) (v3 : Bool) (v5 : Bool) (v7 : Raw) (v8 : Bool) (v9 : Raw) (v10 : Bool) (e1 : ((Lib.cut s [47]).1) = v1) (e2 : ((Lib.cut s [47]).2.1) = v2) (e3 : ((Lib.cut s [47]).2.2) = v3) (e5 : (!v3) = v5) (e7 : (nz (vO (parseS v1))) = v7) (e8 : (okO (parseS v1)) = v8) (e9 : (nz (vO (parseS v2))) = v9) (e10 : (okO (parseS v2)) = v10) (s4 : (s : List UInt8).length < 4294967281) (h6 : v5 = false) (h11 : v8 = true) (h12 : v10 = false) : Fun (KN w0) Tryz.prog 28 [.o (.c (pS s))] (.t [.g [pV (.bool false), pV (.slice none 0 0), pV (.bool false), pV (.slice none 0 0)], .c (pV (.bool false))]) :=
  con_fun (con_ok (F := FL [pS s, pS v1, pS v2, pB v3, pB v5, pB v7.1, pD v7.2, pB v8, pB v9.1, pD v9.2, pB v10] []) (C := [(1000003, .call ⟨69, [.o (.c (.h 0)), .o (.c (.k (.string ⟨#[47]⟩)))], [], .t [.c (.h 1), .c (.h 2), .c (.h 3)], []⟩),
    (1000012, .un .not (LF (.h 3)) (LF (.h 4))),
    (10004, .fb 4 false),
    (1000014, .call ⟨70, [.o (.c (.h 1))], [], .t [.g [.h 5, .h 6], .c (.h 7)], []⟩),
    (1000022, .call ⟨70, [.o (.c (.h 2))], [], .t [.g [.h 8, .h 9], .c (.h 10)], []⟩),
    (10007, .fb 7 true),
    (10010, .fb 10 false)]) (k := ⟨28, [.o (.c (.h 0))], [], .t [.g [.k (.bool false), .k (.slice none 0 0), .k (.bool false), .k (.slice none 0 0)], .c (.k (.bool false))], []⟩) 0 (fine_FL ⟨fine_v rfl, fine_v rfl, fine_v rfl, fine_v rfl, fine_v rfl, fine_v rfl, fine_D, fine_v rfl, fine_v rfl, fine_D, fine_v rfl, trivial⟩) ⟨fun_con (f_cut hM s [47] v1 v2 v3 e1 e2 e3 s4) rfl rfl rfl rfl,
    e_un (gives_h rfl) (gives_h rfl) (fun W => by rw [← e5]; exact r_not W),
    e_fb (show pV (.bool v5) = _ by rw [h6]),
    fun_con (f_parse hTS v1 v7 v8 e7 e8) rfl rfl rfl rfl,
    fun_con (f_parse hTS v2 v9 v10 e9 e10) rfl rfl rfl rfl,
    e_fb (show pV (.bool v8) = _ by rw [h11]),
    e_fb (show pV (.bool v10) = _ by rw [h12]),
    trivial⟩ mixed (by kernel_rfl)) rfl rfl rfl rfl
theorem f_rparse_p9 {w0 : World} (s : (List UInt8))(hM : ∀ W, Below w0.heap.size w0 W → MaxT W) (hTS : ∀ W, Below w0.heap.size w0 W → PowT w0.heap.size W ∧ SynT w0.heap.size W) (v1 : (List UInt8)) (v2 : (List UInt8)) (v3 : Bool) (v5 : Bool) (v7 : Raw) (v8 : Bool) (v9 : Raw) (v10 : Bool) (e1 : ((Lib.cut s [47]).1) = v1) (e2 : ((Lib.cut s [47]).2.1) = v2) (e3 : ((Lib.cut s [47]).2.2) = v3) (e5 : (!v3) = v5) (e7 : (nz (vO (parseS v1))) = v7) (e8 : (okO (parseS v1)) = v8) (e9 : (nz (vO (parseS v2))) = v9) (e10 : (okO (parseS v2)) = v10) (s4 : (s : List UInt8).length < 4294967281) (h6 : v5 = false) (h11 : v8 = false) : Fun (KN w0) Tryz.prog 28 [.o (.c (pS s))] (.t [.g [pV (.bool false), pV (.slice none 0 0), pV (.bool false), pV (.slice none 0 0)], .c (pV (.bool false))]) :=
  con_fun (con_ok (F := FL [pS s, pS v1, pS v2, pB v3, pB v5, pB v7.1, pD v7.2, pB v8, pB v9.1, pD v9.2, pB v10] []) (C := [(1000003, .call ⟨69, [.o (.c (.h 0)), .o (.c (.k (.string ⟨#[47]⟩)))], [], .t [.c (.h 1), .c (.h 2), .c (.h 3)], []⟩),
    (1000012, .un .not (LF (.h 3)) (LF (.h 4))),
    (10004, .fb 4 false),
    (1000014, .call ⟨70, [.o (.c (.h 1))], [], .t [.g [.h 5, .h 6], .c (.h 7)], []⟩),
    (1000022, .call ⟨70, [.o (.c (.h 2))], [], .t [.g [.h 8, .h 9], .c (.h 10)], []⟩),
    (10007, .fb 7 false)]) (k := ⟨28, [.o (.c (.h 0))], [], .t [.g [.k (.bool false), .k (.slice none 0 0), .k (.bool false), .k (.slice none 0 0)], .c (.k (.bool false))], []⟩) 0 (fine_FL ⟨fine_v rfl, fine_v rfl, fine_v rfl, fine_v rfl, fine_v rfl, fine_v rfl, fine_D, fine_v rfl, fine_v rfl, fine_D, fine_v rfl, trivial⟩) ⟨fun_con (f_cut hM s [47] v1 v2 v3 e1 e2 e3 s4) rfl rfl rfl rfl,
    e_un (gives_h rfl) (gives_h rfl) (fun W => by rw [← e5]; exact r_not W),
    e_fb (show pV (.bool v5) = _ by rw [h6]),
    fun_con (f_parse hTS v1 v7 v8 e7 e8) rfl rfl rfl rfl,
    fun_con (f_parse hTS v2 v9 v10 e9 e10) rfl rfl rfl rfl,
    e_fb (show pV (.bool v8) = _ by rw [h11]),
    trivial⟩ mixed (by kernel_rfl)) rfl rfl rfl rfl
theorem f_rparse {w0 : World} (hM : ∀ W, Below w0.heap.size w0 W → MaxT W) (hTS : ∀ W, Below w0.heap.size w0 W → PowT w0.heap.size W ∧ SynT w0.heap.size W) (s : List UInt8) (r : RR) (o : Bool) (hr : parR s = r) (ho : okP s = o) (hl : s.length < 4294967281) : Fun (KN w0) Tryz.prog 28 [.o (.c (pS s))] (.t [.g (cN r.1 ++ cN r.2), .c (pB o)]) := by
  obtain ⟨v1, e1⟩ : ∃ v, ((Lib.cut s [47]).1) = v := ⟨_, rfl⟩
  obtain ⟨v2, e2⟩ : ∃ v, ((Lib.cut s [47]).2.1) = v := ⟨_, rfl⟩
  obtain ⟨v3, e3⟩ : ∃ v, ((Lib.cut s [47]).2.2) = v := ⟨_, rfl⟩
  have s4 : (s : List UInt8).length < 4294967281 := by exact hl
  obtain ⟨v5, e5⟩ : ∃ v, (!v3) = v := ⟨_, rfl⟩
  cases h6 : v5 with
  | true =>
    obtain ⟨v7, e7⟩ : ∃ v, (nz (vO (parseS v1))) = v := ⟨_, rfl⟩
    obtain ⟨v8, e8⟩ : ∃ v, (okO (parseS v1)) = v := ⟨_, rfl⟩
    obtain ⟨v9, e9⟩ : ∃ v, (nz (vO (parseS [49]))) = v := ⟨_, rfl⟩
    obtain ⟨v10, e10⟩ : ∃ v, (okO (parseS [49])) = v := ⟨_, rfl⟩
    cases h11 : v8 with
    | true =>
      cases h12 : v10 with
      | true =>
        obtain ⟨v13, e13⟩ : ∃ v, (rrX (v7, v9).1 (v7, v9).2) = v := ⟨_, rfl⟩
        cases h14 : v13 with
        | true =>
          obtain ⟨v15, e15⟩ : ∃ v, (textR (v7, v9)) = v := ⟨_, rfl⟩
          obtain ⟨v16, e16⟩ : ∃ v, (((v15 : List UInt8) == s)) = v := ⟨_, rfl⟩
          cases h17 : v16 with
          | true =>
            refine Fun.imp (f_rparse_p0 s hM hTS v1 v2 v3 v5 v7 v8 v9 v10 v13 v15 v16 e1 e2 e3 e5 e7 e8 e9 e10 e13 e15 e16 s4 h6 h11 h12 h14 h17) (fun _ _ _ h => h) (fun v W D h => ?_)
            have r0 : r = (v7, v9) := by
              obtain ⟨c1, c2, c3, c4⟩ := cut_slash s
              first | rw [← hr] | rw [← ho]
              subst_vars
              simp_all [parR, okP, rawP]
            have r1 : o = true := by
              obtain ⟨c1, c2, c3, c4⟩ := cut_slash s
              first | rw [← hr] | rw [← ho]
              subst_vars
              simp_all [parR, okP, rawP]
            rw [r0, r1]; exact h
          | false =>
            refine Fun.imp (f_rparse_p1 s hM hTS v1 v2 v3 v5 v7 v8 v9 v10 v13 v15 v16 e1 e2 e3 e5 e7 e8 e9 e10 e13 e15 e16 s4 h6 h11 h12 h14 h17) (fun _ _ _ h => h) (fun v W D h => ?_)
            have r0 : r = rq none := by
              obtain ⟨c1, c2, c3, c4⟩ := cut_slash s
              first | rw [← hr] | rw [← ho]
              subst_vars
              simp_all [parR, okP, rawP]
            have r1 : o = false := by
              obtain ⟨c1, c2, c3, c4⟩ := cut_slash s
              first | rw [← hr] | rw [← ho]
              subst_vars
              simp_all [parR, okP, rawP]
            rw [r0, r1]; exact zero_RT h
        | false =>
          refine Fun.imp (f_rparse_p2 s hM hTS v1 v2 v3 v5 v7 v8 v9 v10 v13 e1 e2 e3 e5 e7 e8 e9 e10 e13 s4 h6 h11 h12 h14) (fun _ _ _ h => h) (fun v W D h => ?_)
          have r0 : r = rq none := by
            obtain ⟨c1, c2, c3, c4⟩ := cut_slash s
            first | rw [← hr] | rw [← ho]
            subst_vars
            simp_all [parR, okP, rawP]
          have r1 : o = false := by
            obtain ⟨c1, c2, c3, c4⟩ := cut_slash s
            first | rw [← hr] | rw [← ho]
            subst_vars
            simp_all [parR, okP, rawP]
          rw [r0, r1]; exact zero_RT h
      | false =>
        refine Fun.imp (f_rparse_p3 s hM hTS v1 v2 v3 v5 v7 v8 v9 v10 e1 e2 e3 e5 e7 e8 e9 e10 s4 h6 h11 h12) (fun _ _ _ h => h) (fun v W D h => ?_)
        have r0 : r = rq none := by
          obtain ⟨c1, c2, c3, c4⟩ := cut_slash s
          first | rw [← hr] | rw [← ho]
          subst_vars
          simp_all [parR, okP, rawP]
        have r1 : o = false := by
          obtain ⟨c1, c2, c3, c4⟩ := cut_slash s
          first | rw [← hr] | rw [← ho]
          subst_vars
          simp_all [parR, okP, rawP]
        rw [r0, r1]; exact zero_RT h
    | false =>
      refine Fun.imp (f_rparse_p4 s hM hTS v1 v2 v3 v5 v7 v8 v9 v10 e1 e2 e3 e5 e7 e8 e9 e10 s4 h6 h11) (fun _ _ _ h => h) (fun v W D h => ?_)
      have r0 : r = rq none := by
        obtain ⟨c1, c2, c3, c4⟩ := cut_slash s
        first | rw [← hr] | rw [← ho]
        subst_vars
        simp_all [parR, okP, rawP]
      have r1 : o = false := by
        obtain ⟨c1, c2, c3, c4⟩ := cut_slash s
        first | rw [← hr] | rw [← ho]
        subst_vars
        simp_all [parR, okP, rawP]
      rw [r0, r1]; exact zero_RT h
  | false =>
    obtain ⟨v7, e7⟩ : ∃ v, (nz (vO (parseS v1))) = v := ⟨_, rfl⟩
    obtain ⟨v8, e8⟩ : ∃ v, (okO (parseS v1)) = v := ⟨_, rfl⟩
    obtain ⟨v9, e9⟩ : ∃ v, (nz (vO (parseS v2))) = v := ⟨_, rfl⟩
    obtain ⟨v10, e10⟩ : ∃ v, (okO (parseS v2)) = v := ⟨_, rfl⟩
    cases h11 : v8 with
    | true =>
      cases h12 : v10 with
      | true =>
        obtain ⟨v13, e13⟩ : ∃ v, (rrX (v7, v9).1 (v7, v9).2) = v := ⟨_, rfl⟩
        cases h14 : v13 with
        | true =>
          obtain ⟨v15, e15⟩ : ∃ v, (textR (v7, v9)) = v := ⟨_, rfl⟩
          obtain ⟨v16, e16⟩ : ∃ v, (((v15 : List UInt8) == s)) = v := ⟨_, rfl⟩
          cases h17 : v16 with
          | true =>
            refine Fun.imp (f_rparse_p5 s hM hTS v1 v2 v3 v5 v7 v8 v9 v10 v13 v15 v16 e1 e2 e3 e5 e7 e8 e9 e10 e13 e15 e16 s4 h6 h11 h12 h14 h17) (fun _ _ _ h => h) (fun v W D h => ?_)
            have r0 : r = (v7, v9) := by
              obtain ⟨c1, c2, c3, c4⟩ := cut_slash s
              first | rw [← hr] | rw [← ho]
              subst_vars
              simp_all [parR, okP, rawP]
            have r1 : o = true := by
              obtain ⟨c1, c2, c3, c4⟩ := cut_slash s
              first | rw [← hr] | rw [← ho]
              subst_vars
              simp_all [parR, okP, rawP]
            rw [r0, r1]; exact h
          | false =>
            refine Fun.imp (f_rparse_p6 s hM hTS v1 v2 v3 v5 v7 v8 v9 v10 v13 v15 v16 e1 e2 e3 e5 e7 e8 e9 e10 e13 e15 e16 s4 h6 h11 h12 h14 h17) (fun _ _ _ h => h) (fun v W D h => ?_)
            have r0 : r = rq none := by
              obtain ⟨c1, c2, c3, c4⟩ := cut_slash s
              first | rw [← hr] | rw [← ho]
              subst_vars
              simp_all [parR, okP, rawP]
            have r1 : o = false := by
              obtain ⟨c1, c2, c3, c4⟩ := cut_slash s
              first | rw [← hr] | rw [← ho]
              subst_vars
              simp_all [parR, okP, rawP]
            rw [r0, r1]; exact zero_RT h
        | false =>
          refine Fun.imp (f_rparse_p7 s hM hTS v1 v2 v3 v5 v7 v8 v9 v10 v13 e1 e2 e3 e5 e7 e8 e9 e10 e13 s4 h6 h11 h12 h14) (fun _ _ _ h => h) (fun v W D h => ?_)
          have r0 : r = rq none := by
            obtain ⟨c1, c2, c3, c4⟩ := cut_slash s
            first | rw [← hr] | rw [← ho]
            subst_vars
            simp_all [parR, okP, rawP]
          have r1 : o = false := by
            obtain ⟨c1, c2, c3, c4⟩ := cut_slash s
            first | rw [← hr] | rw [← ho]
            subst_vars
            simp_all [parR, okP, rawP]
          rw [r0, r1]; exact zero_RT h
      | false =>
        refine Fun.imp (f_rparse_p8 s hM hTS v1 v2 v3 v5 v7 v8 v9 v10 e1 e2 e3 e5 e7 e8 e9 e10 s4 h6 h11 h12) (fun _ _ _ h => h) (fun v W D h => ?_)
        have r0 : r = rq none := by
          obtain ⟨c1, c2, c3, c4⟩ := cut_slash s
          first | rw [← hr] | rw [← ho]
          subst_vars
          simp_all [parR, okP, rawP]
        have r1 : o = false := by
          obtain ⟨c1, c2, c3, c4⟩ := cut_slash s
          first | rw [← hr] | rw [← ho]
          subst_vars
          simp_all [parR, okP, rawP]
        rw [r0, r1]; exact zero_RT h
    | false =>
      refine Fun.imp (f_rparse_p9 s hM hTS v1 v2 v3 v5 v7 v8 v9 v10 e1 e2 e3 e5 e7 e8 e9 e10 s4 h6 h11) (fun _ _ _ h => h) (fun v W D h => ?_)
      have r0 : r = rq none := by
        obtain ⟨c1, c2, c3, c4⟩ := cut_slash s
        first | rw [← hr] | rw [← ho]
        subst_vars
        simp_all [parR, okP, rawP]
      have r1 : o = false := by
        obtain ⟨c1, c2, c3, c4⟩ := cut_slash s
        first | rw [← hr] | rw [← ho]
        subst_vars
        simp_all [parR, okP, rawP]
      rw [r0, r1]; exact zero_RT h
structure rpar_T where
  i : Int
end Go.Proofs.YtccjiodohphgnaaGreatDoor

namespace Go.Proofs.YtccjiodohphgnaaGreatDoor
open Go.RowKit Go.Shelf

theorem f_sanity_p {w0 : World} (hM : ∀ W, Below w0.heap.size w0 W → MaxT W) (hTS : ∀ W, Below w0.heap.size w0 W → PowT w0.heap.size W ∧ SynT w0.heap.size W) (v1 : Raw) (v4 : Raw) (v7 : RR) (v8 : Bool) (v9 : Raw) (v12 : Raw) (v15 : RR) (v16 : Bool) (v17 : Raw) (v20 : Raw) (v23 : RR) (v24 : Bool) (v25 : Bool) (v28 : Bool) (v30 : Bool) (v33 : Bool) (v35 : Bool) (v36 : Bool) (v38 : RR) (v41 : Bool) (v44 : Bool) (v46 : RR) (v49 : Bool) (v50 : Bool) (v52 : RR) (v55 : RR) (v58 : RR) (v59 : Bool) (v60 : RR) (v63 : RR) (v66 : RR) (v67 : Bool) (v68 : RR) (v71 : RR) (v74 : RR) (v75 : Bool) (v76 : Bool) (v79 : Bool) (v81 : Bool) (v84 : Bool) (v86 : Bool) (v89 : Bool) (v91 : RR) (v94 : RR) (v97 : RR) (v98 : Bool) (v99 : RR) (v102 : RR) (v105 : RR) (v106 : Bool) (v107 : Bool) (v110 : Bool) (v112 : Bool) (v113 : Bool) (v115 : RR) (v118 : RR) (v121 : Int) (v122 : Bool) (v124 : RR) (v127 : RR) (v130 : Int) (v131 : Bool) (v133 : RR) (v136 : Int) (v137 : Bool) (v139 : RR) (v142 : Int) (v143 : Bool) (v145 : RR) (v148 : Bool) (v149 : Bool) (v151 : RR) (v154 : Bool) (v155 : Bool) (v157 : RR) (v160 : Bool) (v161 : Bool) (v163 : RR) (v166 : Bool) (v167 : Bool) (v169 : Bool) (v171 : RR) (v172 : Bool) (v174 : RR) (v175 : Bool) (v177 : RR) (v178 : Bool) (v180 : RR) (v183 : (List UInt8)) (v184 : Bool) (v186 : RR) (v189 : (List UInt8)) (v190 : Bool) (v192 : Bool) (v194 : Bool) (v196 : Bool) (e1 : (nz (6 : Int)) = v1) (e4 : (nz (-4 : Int)) = v4) (e7 : (rq (ofX v1 v4)) = v7) (e8 : ((ofX v1 v4).isSome) = v8) (e9 : (nz (0 : Int)) = v9) (e12 : (nz (-7 : Int)) = v12) (e15 : (rq (ofX v9 v12)) = v15) (e16 : ((ofX v9 v12).isSome) = v16) (e17 : (nz (1 : Int)) = v17) (e20 : (nz (0 : Int)) = v20) (e23 : (rq (ofX v17 v20)) = v23) (e24 : ((ofX v17 v20).isSome) = v24) (e25 : ((v8 && decide (v7 = rq (ofX (nz (-3 : Int)) (nz (2 : Int)))))) = v25) (e28 : (!v25) = v28) (e30 : ((v16 && decide (v15 = rq (ofX (nz (0 : Int)) (nz (1 : Int)))))) = v30) (e33 : (!v30) = v33) (e35 : ((!v24 && decide (v23 = rq none))) = v35) (e36 : (!v35) = v36) (e38 : (rq (fracR ((2 : Int), (4 : Int)).1 ((2 : Int), (4 : Int)).2)) = v38) (e41 : ((true && decide (v38 = rq (ofX (nz (1 : Int)) (nz (2 : Int)))))) = v41) (e44 : (!v41) = v44) (e46 : (rq (fracR ((1 : Int), (-2 : Int)).1 ((1 : Int), (-2 : Int)).2)) = v46) (e49 : (decide (v46 = (rq none))) = v49) (e50 : (!v49) = v50) (e52 : (rq (ofX (nz (1 : Int)) (nz (6 : Int)))) = v52) (e55 : (rq (ofX (nz (1 : Int)) (nz (10 : Int)))) = v55) (e58 : (rq (addR (qq v52) (qq v55))) = v58) (e59 : ((addR (qq v52) (qq v55)).isSome) = v59) (e60 : (rq (ofX (nz (1 : Int)) (nz (2 : Int)))) = v60) (e63 : (rq (ofX (nz (2 : Int)) (nz (3 : Int)))) = v63) (e66 : (rq (subR (qq v60) (qq v63))) = v66) (e67 : ((subR (qq v60) (qq v63)).isSome) = v67) (e68 : (rq (ofX (nz (2 : Int)) (nz (3 : Int)))) = v68) (e71 : (rq (ofX (nz (3 : Int)) (nz (4 : Int)))) = v71) (e74 : (rq (mulR (qq v68) (qq v71))) = v74) (e75 : ((mulR (qq v68) (qq v71)).isSome) = v75) (e76 : ((v59 && decide (v58 = rq (ofX (nz (4 : Int)) (nz (15 : Int)))))) = v76) (e79 : (!v76) = v79) (e81 : ((v67 && decide (v66 = rq (ofX (nz (-1 : Int)) (nz (6 : Int)))))) = v81) (e84 : (!v81) = v84) (e86 : ((v75 && decide (v74 = rq (ofX (nz (1 : Int)) (nz (2 : Int)))))) = v86) (e89 : (!v86) = v89) (e91 : (rq (ofX (nz (1 : Int)) (nz (2 : Int)))) = v91) (e94 : (rq (ofX (nz (-3 : Int)) (nz (4 : Int)))) = v94) (e97 : (rq (divR (qq v91) (qq v94))) = v97) (e98 : ((divR (qq v91) (qq v94)).isSome) = v98) (e99 : (rq (ofX (nz (1 : Int)) (nz (2 : Int)))) = v99) (e102 : (rq (ofX (nz (0 : Int)) (nz (1 : Int)))) = v102) (e105 : (rq (divR (qq v99) (qq v102))) = v105) (e106 : ((divR (qq v99) (qq v102)).isSome) = v106) (e107 : ((v98 && decide (v97 = rq (ofX (nz (-2 : Int)) (nz (3 : Int)))))) = v107) (e110 : (!v107) = v110) (e112 : ((!v106 && decide (v105 = rq none))) = v112) (e113 : (!v112) = v113) (e115 : (rq (ofX (nz (1 : Int)) (nz (3 : Int)))) = v115) (e118 : (rq (ofX (nz (333 : Int)) (nz (1000 : Int)))) = v118) (e121 : (cmpO (qq v115) (qq v118)) = v121) (e122 : ((v121 != (1 : Int))) = v122) (e124 : (rq (ofX (nz (-1 : Int)) (nz (2 : Int)))) = v124) (e127 : (rq (ofX (nz (-1 : Int)) (nz (3 : Int)))) = v127) (e130 : (cmpO (qq v124) (qq v127)) = v130) (e131 : ((v130 != (-1 : Int))) = v131) (e133 : (rq (ofX (nz (1 : Int)) (nz (2 : Int)))) = v133) (e136 : (cmpO (qq v133) (qq (rq none))) = v136) (e137 : ((v136 != (0 : Int))) = v137) (e139 : (rq (ofX (nz (-1 : Int)) (nz (2 : Int)))) = v139) (e142 : (sgX v139.1 v139.2) = v142) (e143 : ((v142 != (-1 : Int))) = v143) (e145 : (rq (ofX (nz (7 : Int)) (nz (2 : Int)))) = v145) (e148 : (roundsB v145 (3 : Int) (4 : Int)) = v148) (e149 : (!v148) = v149) (e151 : (rq (ofX (nz (-7 : Int)) (nz (2 : Int)))) = v151) (e154 : (roundsB v151 (-4 : Int) (-3 : Int)) = v154) (e155 : (!v154) = v155) (e157 : (rq (ofX (nz (4 : Int)) (nz (1 : Int)))) = v157) (e160 : (roundsB v157 (4 : Int) (4 : Int)) = v160) (e161 : (!v160) = v161) (e163 : (rq (ofX (nz (1 : Int)) (nz (2 : Int)))) = v163) (e166 : (rrX v163.1 v163.2) = v166) (e167 : (!v166) = v167) (e169 : (rrX (rq none).1 (rq none).2) = v169) (e171 : (parR [50, 47, 52]) = v171) (e172 : (okP [50, 47, 52]) = v172) (e174 : (parR [51, 47, 49]) = v174) (e175 : (okP [51, 47, 49]) = v175) (e177 : (parR [45, 51, 47, 50]) = v177) (e178 : (okP [45, 51, 47, 50]) = v178) (e180 : (rq (ofX (nz (-3 : Int)) (nz (2 : Int)))) = v180) (e183 : (textR v180) = v183) (e184 : (((v183 : List UInt8) == [45, 51, 47, 50])) = v184) (e186 : (rq (ofX (nz (5 : Int)) (nz (1 : Int)))) = v186) (e189 : (textR v186) = v189) (e190 : (((v189 : List UInt8) == [53])) = v190) (e192 : (!v172) = v192) (e194 : (!v175) = v194) (e196 : ((v178 && decide (v177 = rq (ofX (nz (-3 : Int)) (nz (2 : Int)))))) = v196) (s2 : -9223372036854775808 ≤ (6 : Int)) (s3 : (6 : Int) < 9223372036854775808) (s5 : -9223372036854775808 ≤ (-4 : Int)) (s6 : (-4 : Int) < 9223372036854775808) (s10 : -9223372036854775808 ≤ (0 : Int)) (s11 : (0 : Int) < 9223372036854775808) (s13 : -9223372036854775808 ≤ (-7 : Int)) (s14 : (-7 : Int) < 9223372036854775808) (s18 : -9223372036854775808 ≤ (1 : Int)) (s19 : (1 : Int) < 9223372036854775808) (s21 : -9223372036854775808 ≤ (0 : Int)) (s22 : (0 : Int) < 9223372036854775808) (s26 : InR (-3 : Int)) (s27 : InR (2 : Int)) (h29 : v28 = false) (s31 : InR (0 : Int)) (s32 : InR (1 : Int)) (h34 : v33 = false) (h37 : v36 = false) (s39 : InR ((2 : Int), (4 : Int)).1) (s40 : InR ((2 : Int), (4 : Int)).2) (s42 : InR (1 : Int)) (s43 : InR (2 : Int)) (h45 : v44 = false) (s47 : InR ((1 : Int), (-2 : Int)).1) (s48 : InR ((1 : Int), (-2 : Int)).2) (h51 : v50 = false) (s53 : InR (1 : Int)) (s54 : InR (6 : Int)) (s56 : InR (1 : Int)) (s57 : InR (10 : Int)) (s61 : InR (1 : Int)) (s62 : InR (2 : Int)) (s64 : InR (2 : Int)) (s65 : InR (3 : Int)) (s69 : InR (2 : Int)) (s70 : InR (3 : Int)) (s72 : InR (3 : Int)) (s73 : InR (4 : Int)) (s77 : InR (4 : Int)) (s78 : InR (15 : Int)) (h80 : v79 = false) (s82 : InR (-1 : Int)) (s83 : InR (6 : Int)) (h85 : v84 = false) (s87 : InR (1 : Int)) (s88 : InR (2 : Int)) (h90 : v89 = false) (s92 : InR (1 : Int)) (s93 : InR (2 : Int)) (s95 : InR (-3 : Int)) (s96 : InR (4 : Int)) (s100 : InR (1 : Int)) (s101 : InR (2 : Int)) (s103 : InR (0 : Int)) (s104 : InR (1 : Int)) (s108 : InR (-2 : Int)) (s109 : InR (3 : Int)) (h111 : v110 = false) (h114 : v113 = false) (s116 : InR (1 : Int)) (s117 : InR (3 : Int)) (s119 : InR (333 : Int)) (s120 : InR (1000 : Int)) (h123 : v122 = false) (s125 : InR (-1 : Int)) (s126 : InR (2 : Int)) (s128 : InR (-1 : Int)) (s129 : InR (3 : Int)) (h132 : v131 = false) (s134 : InR (1 : Int)) (s135 : InR (2 : Int)) (h138 : v137 = false) (s140 : InR (-1 : Int)) (s141 : InR (2 : Int)) (h144 : v143 = false) (s146 : InR (7 : Int)) (s147 : InR (2 : Int)) (h150 : v149 = false) (s152 : InR (-7 : Int)) (s153 : InR (2 : Int)) (h156 : v155 = false) (s158 : InR (4 : Int)) (s159 : InR (1 : Int)) (h162 : v161 = false) (s164 : InR (1 : Int)) (s165 : InR (2 : Int)) (h168 : v167 = false) (h170 : v169 = false) (s173 : ([50, 47, 52] : List UInt8).length < 4294967281) (s176 : ([51, 47, 49] : List UInt8).length < 4294967281) (s179 : ([45, 51, 47, 50] : List UInt8).length < 4294967281) (s181 : InR (-3 : Int)) (s182 : InR (2 : Int)) (h185 : v184 = true) (s187 : InR (5 : Int)) (s188 : InR (1 : Int)) (h191 : v190 = true) (h193 : v192 = true) (h195 : v194 = true) (s197 : InR (-3 : Int)) (s198 : InR (2 : Int)) : Fun (KN w0) Tryz.prog 10 [] (.o (.c (pB v196))) :=
  con_fun (con_ok (F := FL [pB v1.1, pD v1.2, pB v4.1, pD v4.2, pB v7.1.1, pD v7.1.2, pB v7.2.1, pD v7.2.2, pB v8, pB v9.1, pD v9.2, pB v12.1, pD v12.2, pB v15.1.1, pD v15.1.2, pB v15.2.1, pD v15.2.2, pB v16, pB v17.1, pD v17.2, pB v20.1, pD v20.2, pB v23.1.1, pD v23.1.2, pB v23.2.1, pD v23.2.2, pB v24, pB v25, pB v28, pB v30, pB v33, pB v35, pB v36, pB v38.1.1, pD v38.1.2, pB v38.2.1, pD v38.2.2, pB v41, pB v44, pB v46.1.1, pD v46.1.2, pB v46.2.1, pD v46.2.2, pB v49, pB v50, pB v52.1.1, pD v52.1.2, pB v52.2.1, pD v52.2.2, pB v55.1.1, pD v55.1.2, pB v55.2.1, pD v55.2.2, pB v58.1.1, pD v58.1.2, pB v58.2.1, pD v58.2.2, pB v59, pB v60.1.1, pD v60.1.2, pB v60.2.1, pD v60.2.2, pB v63.1.1, pD v63.1.2, pB v63.2.1, pD v63.2.2, pB v66.1.1, pD v66.1.2, pB v66.2.1, pD v66.2.2, pB v67, pB v68.1.1, pD v68.1.2, pB v68.2.1, pD v68.2.2, pB v71.1.1, pD v71.1.2, pB v71.2.1, pD v71.2.2, pB v74.1.1, pD v74.1.2, pB v74.2.1, pD v74.2.2, pB v75, pB v76, pB v79, pB v81, pB v84, pB v86, pB v89, pB v91.1.1, pD v91.1.2, pB v91.2.1, pD v91.2.2, pB v94.1.1, pD v94.1.2, pB v94.2.1, pD v94.2.2, pB v97.1.1, pD v97.1.2, pB v97.2.1, pD v97.2.2, pB v98, pB v99.1.1, pD v99.1.2, pB v99.2.1, pD v99.2.2, pB v102.1.1, pD v102.1.2, pB v102.2.1, pD v102.2.2, pB v105.1.1, pD v105.1.2, pB v105.2.1, pD v105.2.2, pB v106, pB v107, pB v110, pB v112, pB v113, pB v115.1.1, pD v115.1.2, pB v115.2.1, pD v115.2.2, pB v118.1.1, pD v118.1.2, pB v118.2.1, pD v118.2.2, pI v121, pB v122, pB v124.1.1, pD v124.1.2, pB v124.2.1, pD v124.2.2, pB v127.1.1, pD v127.1.2, pB v127.2.1, pD v127.2.2, pI v130, pB v131, pB v133.1.1, pD v133.1.2, pB v133.2.1, pD v133.2.2, pI v136, pB v137, pB v139.1.1, pD v139.1.2, pB v139.2.1, pD v139.2.2, pI v142, pB v143, pB v145.1.1, pD v145.1.2, pB v145.2.1, pD v145.2.2, pB v148, pB v149, pB v151.1.1, pD v151.1.2, pB v151.2.1, pD v151.2.2, pB v154, pB v155, pB v157.1.1, pD v157.1.2, pB v157.2.1, pD v157.2.2, pB v160, pB v161, pB v163.1.1, pD v163.1.2, pB v163.2.1, pD v163.2.2, pB v166, pB v167, pB v169, pB v171.1.1, pD v171.1.2, pB v171.2.1, pD v171.2.2, pB v172, pB v174.1.1, pD v174.1.2, pB v174.2.1, pD v174.2.2, pB v175, pB v177.1.1, pD v177.1.2, pB v177.2.1, pD v177.2.2, pB v178, pB v180.1.1, pD v180.1.2, pB v180.2.1, pD v180.2.2, pS v183, pB v184, pB v186.1.1, pD v186.1.2, pB v186.2.1, pD v186.2.2, pS v189, pB v190, pB v192, pB v194, pB v196] []) (C := [(1000001, .call ⟨36, [.o (.c (.k (.int .i64 6)))], [], .o (.g [.h 0, .h 1]), []⟩),
    (1000002, .call ⟨36, [.o (.c (.k (.int .i64 (-4))))], [], .o (.g [.h 2, .h 3]), []⟩),
    (1000003, .call ⟨46, [.o (.g [.h 0, .h 1]), .o (.g [.h 2, .h 3])], [], .t [.g [.h 4, .h 5, .h 6, .h 7], .c (.h 8)], []⟩),
    (1000010, .call ⟨36, [.o (.c (.k (.int .i64 0)))], [], .o (.g [.h 9, .h 10]), []⟩),
    (1000011, .call ⟨36, [.o (.c (.k (.int .i64 (-7))))], [], .o (.g [.h 11, .h 12]), []⟩),
    (1000012, .call ⟨46, [.o (.g [.h 9, .h 10]), .o (.g [.h 11, .h 12])], [], .t [.g [.h 13, .h 14, .h 15, .h 16], .c (.h 17)], []⟩),
    (1000019, .call ⟨36, [.o (.c (.k (.int .i64 1)))], [], .o (.g [.h 18, .h 19]), []⟩),
    (1000020, .call ⟨36, [.o (.c (.k (.int .i64 0)))], [], .o (.g [.h 20, .h 21]), []⟩),
    (1000021, .call ⟨46, [.o (.g [.h 18, .h 19]), .o (.g [.h 20, .h 21])], [], .t [.g [.h 22, .h 23, .h 24, .h 25], .c (.h 26)], []⟩),
    (1000030, .call ⟨50, [.o (.g [.h 4, .h 5, .h 6, .h 7]), .o (.c (.h 8)), .o (.c (.k (.int .i64 (-3)))), .o (.c (.k (.int .i64 2)))], [], .o (.c (.h 27)), []⟩),
    (1000031, .un .not (LF (.h 27)) (LF (.h 28))),
    (10028, .fb 28 false),
    (1000035, .call ⟨50, [.o (.g [.h 13, .h 14, .h 15, .h 16]), .o (.c (.h 17)), .o (.c (.k (.int .i64 0))), .o (.c (.k (.int .i64 1)))], [], .o (.c (.h 29)), []⟩),
    (1000036, .un .not (LF (.h 29)) (LF (.h 30))),
    (10030, .fb 30 false),
    (1000041, .call ⟨35, [.o (.g [.h 22, .h 23, .h 24, .h 25]), .o (.c (.h 26))], [], .o (.c (.h 31)), []⟩),
    (1000042, .un .not (LF (.h 31)) (LF (.h 32))),
    (10032, .fb 32 false),
    (1000046, .call ⟨48, [.o (.g [.k (.int .i64 2), .k (.int .i64 4)])], [], .o (.g [.h 33, .h 34, .h 35, .h 36]), []⟩),
    (1000047, .call ⟨50, [.o (.g [.h 33, .h 34, .h 35, .h 36]), .o (.c (.k (.bool true))), .o (.c (.k (.int .i64 1))), .o (.c (.k (.int .i64 2)))], [], .o (.c (.h 37)), []⟩),
    (1000048, .un .not (LF (.h 37)) (LF (.h 38))),
    (10038, .fb 38 false),
    (1000052, .call ⟨48, [.o (.g [.k (.int .i64 1), .k (.int .i64 (-2))])], [], .o (.g [.h 39, .h 40, .h 41, .h 42]), []⟩),
    (1000054, .call ⟨17, [.o (.g [.h 39, .h 40, .h 41, .h 42]), .o (.g [.k (.bool false), .k (.slice none 0 0), .k (.bool false), .k (.slice none 0 0)])], [], .o (.c (.h 43)), []⟩),
    (1000055, .un .not (LF (.h 43)) (LF (.h 44))),
    (10044, .fb 44 false),
    (1000057, .call ⟨51, [.o (.c (.k (.int .i64 1))), .o (.c (.k (.int .i64 6)))], [], .o (.g [.h 45, .h 46, .h 47, .h 48]), []⟩),
    (1000058, .call ⟨51, [.o (.c (.k (.int .i64 1))), .o (.c (.k (.int .i64 10)))], [], .o (.g [.h 49, .h 50, .h 51, .h 52]), []⟩),
    (1000059, .call ⟨13, [.o (.g [.h 45, .h 46, .h 47, .h 48]), .o (.g [.h 49, .h 50, .h 51, .h 52])], [], .t [.g [.h 53, .h 54, .h 55, .h 56], .c (.h 57)], []⟩),
    (1000065, .call ⟨51, [.o (.c (.k (.int .i64 1))), .o (.c (.k (.int .i64 2)))], [], .o (.g [.h 58, .h 59, .h 60, .h 61]), []⟩),
    (1000066, .call ⟨51, [.o (.c (.k (.int .i64 2))), .o (.c (.k (.int .i64 3)))], [], .o (.g [.h 62, .h 63, .h 64, .h 65]), []⟩),
    (1000067, .call ⟨15, [.o (.g [.h 58, .h 59, .h 60, .h 61]), .o (.g [.h 62, .h 63, .h 64, .h 65])], [], .t [.g [.h 66, .h 67, .h 68, .h 69], .c (.h 70)], []⟩),
    (1000073, .call ⟨51, [.o (.c (.k (.int .i64 2))), .o (.c (.k (.int .i64 3)))], [], .o (.g [.h 71, .h 72, .h 73, .h 74]), []⟩),
    (1000074, .call ⟨51, [.o (.c (.k (.int .i64 3))), .o (.c (.k (.int .i64 4)))], [], .o (.g [.h 75, .h 76, .h 77, .h 78]), []⟩),
    (1000075, .call ⟨18, [.o (.g [.h 71, .h 72, .h 73, .h 74]), .o (.g [.h 75, .h 76, .h 77, .h 78])], [], .t [.g [.h 79, .h 80, .h 81, .h 82], .c (.h 83)], []⟩),
    (1000083, .call ⟨50, [.o (.g [.h 53, .h 54, .h 55, .h 56]), .o (.c (.h 57)), .o (.c (.k (.int .i64 4))), .o (.c (.k (.int .i64 15)))], [], .o (.c (.h 84)), []⟩),
    (1000084, .un .not (LF (.h 84)) (LF (.h 85))),
    (10085, .fb 85 false),
    (1000088, .call ⟨50, [.o (.g [.h 66, .h 67, .h 68, .h 69]), .o (.c (.h 70)), .o (.c (.k (.int .i64 (-1)))), .o (.c (.k (.int .i64 6)))], [], .o (.c (.h 86)), []⟩),
    (1000089, .un .not (LF (.h 86)) (LF (.h 87))),
    (10087, .fb 87 false),
    (1000094, .call ⟨50, [.o (.g [.h 79, .h 80, .h 81, .h 82]), .o (.c (.h 83)), .o (.c (.k (.int .i64 1))), .o (.c (.k (.int .i64 2)))], [], .o (.c (.h 88)), []⟩),
    (1000095, .un .not (LF (.h 88)) (LF (.h 89))),
    (10089, .fb 89 false),
    (1000097, .call ⟨51, [.o (.c (.k (.int .i64 1))), .o (.c (.k (.int .i64 2)))], [], .o (.g [.h 90, .h 91, .h 92, .h 93]), []⟩),
    (1000098, .call ⟨51, [.o (.c (.k (.int .i64 (-3)))), .o (.c (.k (.int .i64 4)))], [], .o (.g [.h 94, .h 95, .h 96, .h 97]), []⟩),
    (1000099, .call ⟨20, [.o (.g [.h 90, .h 91, .h 92, .h 93]), .o (.g [.h 94, .h 95, .h 96, .h 97])], [], .t [.g [.h 98, .h 99, .h 100, .h 101], .c (.h 102)], []⟩),
    (1000105, .call ⟨51, [.o (.c (.k (.int .i64 1))), .o (.c (.k (.int .i64 2)))], [], .o (.g [.h 103, .h 104, .h 105, .h 106]), []⟩),
    (1000106, .call ⟨51, [.o (.c (.k (.int .i64 0))), .o (.c (.k (.int .i64 1)))], [], .o (.g [.h 107, .h 108, .h 109, .h 110]), []⟩),
    (1000107, .call ⟨20, [.o (.g [.h 103, .h 104, .h 105, .h 106]), .o (.g [.h 107, .h 108, .h 109, .h 110])], [], .t [.g [.h 111, .h 112, .h 113, .h 114], .c (.h 115)], []⟩),
    (1000115, .call ⟨50, [.o (.g [.h 98, .h 99, .h 100, .h 101]), .o (.c (.h 102)), .o (.c (.k (.int .i64 (-2)))), .o (.c (.k (.int .i64 3)))], [], .o (.c (.h 116)), []⟩),
    (1000116, .un .not (LF (.h 116)) (LF (.h 117))),
    (10117, .fb 117 false),
    (1000120, .call ⟨35, [.o (.g [.h 111, .h 112, .h 113, .h 114]), .o (.c (.h 115))], [], .o (.c (.h 118)), []⟩),
    (1000121, .un .not (LF (.h 118)) (LF (.h 119))),
    (10119, .fb 119 false),
    (1000124, .call ⟨51, [.o (.c (.k (.int .i64 1))), .o (.c (.k (.int .i64 3)))], [], .o (.g [.h 120, .h 121, .h 122, .h 123]), []⟩),
    (1000125, .call ⟨51, [.o (.c (.k (.int .i64 333))), .o (.c (.k (.int .i64 1000)))], [], .o (.g [.h 124, .h 125, .h 126, .h 127]), []⟩),
    (1000126, .call ⟨22, [.o (.g [.h 120, .h 121, .h 122, .h 123]), .o (.g [.h 124, .h 125, .h 126, .h 127])], [], .o (.c (.h 128)), []⟩),
    (1000127, .bin .neq 3 (LF (.h 128)) (LF (.k (.int .i64 1))) (LF (.h 129))),
    (10129, .fb 129 false),
    (1000130, .call ⟨51, [.o (.c (.k (.int .i64 (-1)))), .o (.c (.k (.int .i64 2)))], [], .o (.g [.h 130, .h 131, .h 132, .h 133]), []⟩),
    (1000131, .call ⟨51, [.o (.c (.k (.int .i64 (-1)))), .o (.c (.k (.int .i64 3)))], [], .o (.g [.h 134, .h 135, .h 136, .h 137]), []⟩),
    (1000132, .call ⟨22, [.o (.g [.h 130, .h 131, .h 132, .h 133]), .o (.g [.h 134, .h 135, .h 136, .h 137])], [], .o (.c (.h 138)), []⟩),
    (1000133, .bin .neq 3 (LF (.h 138)) (LF (.k (.int .i64 (-1)))) (LF (.h 139))),
    (10139, .fb 139 false),
    (1000136, .call ⟨51, [.o (.c (.k (.int .i64 1))), .o (.c (.k (.int .i64 2)))], [], .o (.g [.h 140, .h 141, .h 142, .h 143]), []⟩),
    (1000138, .call ⟨22, [.o (.g [.h 140, .h 141, .h 142, .h 143]), .o (.g [.k (.bool false), .k (.slice none 0 0), .k (.bool false), .k (.slice none 0 0)])], [], .o (.c (.h 144)), []⟩),
    (1000139, .bin .neq 3 (LF (.h 144)) (LF (.k (.int .i64 0))) (LF (.h 145))),
    (10145, .fb 145 false),
    (1000142, .call ⟨51, [.o (.c (.k (.int .i64 (-1)))), .o (.c (.k (.int .i64 2)))], [], .o (.g [.h 146, .h 147, .h 148, .h 149]), []⟩),
    (1000143, .call ⟨26, [.o (.g [.h 146, .h 147, .h 148, .h 149])], [], .o (.c (.h 150)), []⟩),
    (1000144, .bin .neq 3 (LF (.h 150)) (LF (.k (.int .i64 (-1)))) (LF (.h 151))),
    (10151, .fb 151 false),
    (1000146, .call ⟨51, [.o (.c (.k (.int .i64 7))), .o (.c (.k (.int .i64 2)))], [], .o (.g [.h 152, .h 153, .h 154, .h 155]), []⟩),
    (1000147, .call ⟨52, [.o (.g [.h 152, .h 153, .h 154, .h 155]), .o (.c (.k (.int .i64 3))), .o (.c (.k (.int .i64 4)))], [], .o (.c (.h 156)), []⟩),
    (1000148, .un .not (LF (.h 156)) (LF (.h 157))),
    (10157, .fb 157 false),
    (1000150, .call ⟨51, [.o (.c (.k (.int .i64 (-7)))), .o (.c (.k (.int .i64 2)))], [], .o (.g [.h 158, .h 159, .h 160, .h 161]), []⟩),
    (1000151, .call ⟨52, [.o (.g [.h 158, .h 159, .h 160, .h 161]), .o (.c (.k (.int .i64 (-4)))), .o (.c (.k (.int .i64 (-3))))], [], .o (.c (.h 162)), []⟩),
    (1000152, .un .not (LF (.h 162)) (LF (.h 163))),
    (10163, .fb 163 false),
    (1000155, .call ⟨51, [.o (.c (.k (.int .i64 4))), .o (.c (.k (.int .i64 1)))], [], .o (.g [.h 164, .h 165, .h 166, .h 167]), []⟩),
    (1000156, .call ⟨52, [.o (.g [.h 164, .h 165, .h 166, .h 167]), .o (.c (.k (.int .i64 4))), .o (.c (.k (.int .i64 4)))], [], .o (.c (.h 168)), []⟩),
    (1000157, .un .not (LF (.h 168)) (LF (.h 169))),
    (10169, .fb 169 false),
    (1000160, .call ⟨51, [.o (.c (.k (.int .i64 1))), .o (.c (.k (.int .i64 2)))], [], .o (.g [.h 170, .h 171, .h 172, .h 173]), []⟩),
    (1000161, .call ⟨43, [.o (.g [.h 170, .h 171, .h 172, .h 173])], [], .o (.c (.h 174)), []⟩),
    (1000162, .un .not (LF (.h 174)) (LF (.h 175))),
    (10175, .fb 175 false),
    (1000166, .call ⟨43, [.o (.g [.k (.bool false), .k (.slice none 0 0), .k (.bool false), .k (.slice none 0 0)])], [], .o (.c (.h 176)), []⟩),
    (10176, .fb 176 false),
    (1000168, .call ⟨28, [.o (.c (.k (.string ⟨#[50, 47, 52]⟩)))], [], .t [.g [.h 177, .h 178, .h 179, .h 180], .c (.h 181)], []⟩),
    (1000175, .call ⟨28, [.o (.c (.k (.string ⟨#[51, 47, 49]⟩)))], [], .t [.g [.h 182, .h 183, .h 184, .h 185], .c (.h 186)], []⟩),
    (1000182, .call ⟨28, [.o (.c (.k (.string ⟨#[45, 51, 47, 50]⟩)))], [], .t [.g [.h 187, .h 188, .h 189, .h 190], .c (.h 191)], []⟩),
    (1000189, .call ⟨51, [.o (.c (.k (.int .i64 (-3)))), .o (.c (.k (.int .i64 2)))], [], .o (.g [.h 192, .h 193, .h 194, .h 195]), []⟩),
    (1000190, .call ⟨27, [.o (.g [.h 192, .h 193, .h 194, .h 195])], [], .o (.c (.h 196)), []⟩),
    (1000191, .bin .eql 9 (LF (.h 196)) (LF (.k (.string ⟨#[45, 51, 47, 50]⟩))) (LF (.h 197))),
    (10197, .fb 197 true),
    (1000193, .call ⟨51, [.o (.c (.k (.int .i64 5))), .o (.c (.k (.int .i64 1)))], [], .o (.g [.h 198, .h 199, .h 200, .h 201]), []⟩),
    (1000194, .call ⟨27, [.o (.g [.h 198, .h 199, .h 200, .h 201])], [], .o (.c (.h 202)), []⟩),
    (1000195, .bin .eql 9 (LF (.h 202)) (LF (.k (.string ⟨#[53]⟩))) (LF (.h 203))),
    (10203, .fb 203 true),
    (1000199, .un .not (LF (.h 181)) (LF (.h 204))),
    (10204, .fb 204 true),
    (1000203, .un .not (LF (.h 186)) (LF (.h 205))),
    (10205, .fb 205 true),
    (1000208, .call ⟨50, [.o (.g [.h 187, .h 188, .h 189, .h 190]), .o (.c (.h 191)), .o (.c (.k (.int .i64 (-3)))), .o (.c (.k (.int .i64 2)))], [], .o (.c (.h 206)), []⟩)]) (k := ⟨10, [], [], .o (.c (.h 206)), []⟩) 0 (fine_FL ⟨fine_v rfl, fine_D, fine_v rfl, fine_D, fine_v rfl, fine_D, fine_v rfl, fine_D, fine_v rfl, fine_v rfl, fine_D, fine_v rfl, fine_D, fine_v rfl, fine_D, fine_v rfl, fine_D, fine_v rfl, fine_v rfl, fine_D, fine_v rfl, fine_D, fine_v rfl, fine_D, fine_v rfl, fine_D, fine_v rfl, fine_v rfl, fine_v rfl, fine_v rfl, fine_v rfl, fine_v rfl, fine_v rfl, fine_v rfl, fine_D, fine_v rfl, fine_D, fine_v rfl, fine_v rfl, fine_v rfl, fine_D, fine_v rfl, fine_D, fine_v rfl, fine_v rfl, fine_v rfl, fine_D, fine_v rfl, fine_D, fine_v rfl, fine_D, fine_v rfl, fine_D, fine_v rfl, fine_D, fine_v rfl, fine_D, fine_v rfl, fine_v rfl, fine_D, fine_v rfl, fine_D, fine_v rfl, fine_D, fine_v rfl, fine_D, fine_v rfl, fine_D, fine_v rfl, fine_D, fine_v rfl, fine_v rfl, fine_D, fine_v rfl, fine_D, fine_v rfl, fine_D, fine_v rfl, fine_D, fine_v rfl, fine_D, fine_v rfl, fine_D, fine_v rfl, fine_v rfl, fine_v rfl, fine_v rfl, fine_v rfl, fine_v rfl, fine_v rfl, fine_v rfl, fine_D, fine_v rfl, fine_D, fine_v rfl, fine_D, fine_v rfl, fine_D, fine_v rfl, fine_D, fine_v rfl, fine_D, fine_v rfl, fine_v rfl, fine_D, fine_v rfl, fine_D, fine_v rfl, fine_D, fine_v rfl, fine_D, fine_v rfl, fine_D, fine_v rfl, fine_D, fine_v rfl, fine_v rfl, fine_v rfl, fine_v rfl, fine_v rfl, fine_v rfl, fine_D, fine_v rfl, fine_D, fine_v rfl, fine_D, fine_v rfl, fine_D, fine_v rfl, fine_v rfl, fine_v rfl, fine_D, fine_v rfl, fine_D, fine_v rfl, fine_D, fine_v rfl, fine_D, fine_v rfl, fine_v rfl, fine_v rfl, fine_D, fine_v rfl, fine_D, fine_v rfl, fine_v rfl, fine_v rfl, fine_D, fine_v rfl, fine_D, fine_v rfl, fine_v rfl, fine_v rfl, fine_D, fine_v rfl, fine_D, fine_v rfl, fine_v rfl, fine_v rfl, fine_D, fine_v rfl, fine_D, fine_v rfl, fine_v rfl, fine_v rfl, fine_D, fine_v rfl, fine_D, fine_v rfl, fine_v rfl, fine_v rfl, fine_D, fine_v rfl, fine_D, fine_v rfl, fine_v rfl, fine_v rfl, fine_v rfl, fine_D, fine_v rfl, fine_D, fine_v rfl, fine_v rfl, fine_D, fine_v rfl, fine_D, fine_v rfl, fine_v rfl, fine_D, fine_v rfl, fine_D, fine_v rfl, fine_v rfl, fine_D, fine_v rfl, fine_D, fine_v rfl, fine_v rfl, fine_v rfl, fine_D, fine_v rfl, fine_D, fine_v rfl, fine_v rfl, fine_v rfl, fine_v rfl, fine_v rfl, trivial⟩) ⟨fun_con (f_refof (6 : Int) v1 e1 s2 s3) rfl rfl rfl rfl,
    fun_con (f_refof (-4 : Int) v4 e4 s5 s6) rfl rfl rfl rfl,
    fun_con (f_rof v1 v4 v7 v8 e7 e8) rfl rfl rfl rfl,
    fun_con (f_refof (0 : Int) v9 e9 s10 s11) rfl rfl rfl rfl,
    fun_con (f_refof (-7 : Int) v12 e12 s13 s14) rfl rfl rfl rfl,
    fun_con (f_rof v9 v12 v15 v16 e15 e16) rfl rfl rfl rfl,
    fun_con (f_refof (1 : Int) v17 e17 s18 s19) rfl rfl rfl rfl,
    fun_con (f_refof (0 : Int) v20 e20 s21 s22) rfl rfl rfl rfl,
    fun_con (f_rof v17 v20 v23 v24 e23 e24) rfl rfl rfl rfl,
    fun_con (f_lgives v7 v8 (-3 : Int) (2 : Int) v25 e25 s26 s27) rfl rfl rfl rfl,
    e_un (gives_h rfl) (gives_h rfl) (fun W => by rw [← e28]; exact r_not W),
    e_fb (show pV (.bool v28) = _ by rw [h29]),
    fun_con (f_lgives v15 v16 (0 : Int) (1 : Int) v30 e30 s31 s32) rfl rfl rfl rfl,
    e_un (gives_h rfl) (gives_h rfl) (fun W => by rw [← e33]; exact r_not W),
    e_fb (show pV (.bool v33) = _ by rw [h34]),
    fun_con (f_lnone v23 v24 v35 e35) rfl rfl rfl rfl,
    e_un (gives_h rfl) (gives_h rfl) (fun W => by rw [← e36]; exact r_not W),
    e_fb (show pV (.bool v36) = _ by rw [h37]),
    fun_con (f_rfrac2 ((2 : Int), (4 : Int)) v38 e38 s39 s40) rfl rfl rfl rfl,
    fun_con (f_lgives v38 true (1 : Int) (2 : Int) v41 e41 s42 s43) rfl rfl rfl rfl,
    e_un (gives_h rfl) (gives_h rfl) (fun W => by rw [← e44]; exact r_not W),
    e_fb (show pV (.bool v44) = _ by rw [h45]),
    fun_con (f_rfrac2 ((1 : Int), (-2 : Int)) v46 e46 s47 s48) rfl rfl rfl rfl,
    fun_con (Fun.imp (as2 := [.o (.g [pB v46.1.1, pD v46.1.2, pB v46.2.1, pD v46.2.2]), .o (.g [pV (.bool false), pV (.slice none 0 0), pV (.bool false), pV (.slice none 0 0)])]) (f_same v46 (rq none) v49 e49) (oka_imp ⟨fun _ _ _ h => h, fun _ _ _ h => zero_R h, trivial⟩) (fun _ _ _ h => h)) rfl rfl rfl rfl,
    e_un (gives_h rfl) (gives_h rfl) (fun W => by rw [← e50]; exact r_not W),
    e_fb (show pV (.bool v50) = _ by rw [h51]),
    fun_con (f_lof (1 : Int) (6 : Int) v52 e52 s53 s54) rfl rfl rfl rfl,
    fun_con (f_lof (1 : Int) (10 : Int) v55 e55 s56 s57) rfl rfl rfl rfl,
    fun_con (f_radd v52 v55 v58 v59 e58 e59) rfl rfl rfl rfl,
    fun_con (f_lof (1 : Int) (2 : Int) v60 e60 s61 s62) rfl rfl rfl rfl,
    fun_con (f_lof (2 : Int) (3 : Int) v63 e63 s64 s65) rfl rfl rfl rfl,
    fun_con (f_rsub v60 v63 v66 v67 e66 e67) rfl rfl rfl rfl,
    fun_con (f_lof (2 : Int) (3 : Int) v68 e68 s69 s70) rfl rfl rfl rfl,
    fun_con (f_lof (3 : Int) (4 : Int) v71 e71 s72 s73) rfl rfl rfl rfl,
    fun_con (f_rmul v68 v71 v74 v75 e74 e75) rfl rfl rfl rfl,
    fun_con (f_lgives v58 v59 (4 : Int) (15 : Int) v76 e76 s77 s78) rfl rfl rfl rfl,
    e_un (gives_h rfl) (gives_h rfl) (fun W => by rw [← e79]; exact r_not W),
    e_fb (show pV (.bool v79) = _ by rw [h80]),
    fun_con (f_lgives v66 v67 (-1 : Int) (6 : Int) v81 e81 s82 s83) rfl rfl rfl rfl,
    e_un (gives_h rfl) (gives_h rfl) (fun W => by rw [← e84]; exact r_not W),
    e_fb (show pV (.bool v84) = _ by rw [h85]),
    fun_con (f_lgives v74 v75 (1 : Int) (2 : Int) v86 e86 s87 s88) rfl rfl rfl rfl,
    e_un (gives_h rfl) (gives_h rfl) (fun W => by rw [← e89]; exact r_not W),
    e_fb (show pV (.bool v89) = _ by rw [h90]),
    fun_con (f_lof (1 : Int) (2 : Int) v91 e91 s92 s93) rfl rfl rfl rfl,
    fun_con (f_lof (-3 : Int) (4 : Int) v94 e94 s95 s96) rfl rfl rfl rfl,
    fun_con (f_rdiv v91 v94 v97 v98 e97 e98) rfl rfl rfl rfl,
    fun_con (f_lof (1 : Int) (2 : Int) v99 e99 s100 s101) rfl rfl rfl rfl,
    fun_con (f_lof (0 : Int) (1 : Int) v102 e102 s103 s104) rfl rfl rfl rfl,
    fun_con (f_rdiv v99 v102 v105 v106 e105 e106) rfl rfl rfl rfl,
    fun_con (f_lgives v97 v98 (-2 : Int) (3 : Int) v107 e107 s108 s109) rfl rfl rfl rfl,
    e_un (gives_h rfl) (gives_h rfl) (fun W => by rw [← e110]; exact r_not W),
    e_fb (show pV (.bool v110) = _ by rw [h111]),
    fun_con (f_lnone v105 v106 v112 e112) rfl rfl rfl rfl,
    e_un (gives_h rfl) (gives_h rfl) (fun W => by rw [← e113]; exact r_not W),
    e_fb (show pV (.bool v113) = _ by rw [h114]),
    fun_con (f_lof (1 : Int) (3 : Int) v115 e115 s116 s117) rfl rfl rfl rfl,
    fun_con (f_lof (333 : Int) (1000 : Int) v118 e118 s119 s120) rfl rfl rfl rfl,
    fun_con (f_rcmp v115 v118 v121 e121) rfl rfl rfl rfl,
    e_bin (gives_h rfl) gives_k (gives_h rfl) (r_cmp (congrArg some e122)),
    e_fb (show pV (.bool v122) = _ by rw [h123]),
    fun_con (f_lof (-1 : Int) (2 : Int) v124 e124 s125 s126) rfl rfl rfl rfl,
    fun_con (f_lof (-1 : Int) (3 : Int) v127 e127 s128 s129) rfl rfl rfl rfl,
    fun_con (f_rcmp v124 v127 v130 e130) rfl rfl rfl rfl,
    e_bin (gives_h rfl) gives_k (gives_h rfl) (r_cmp (congrArg some e131)),
    e_fb (show pV (.bool v131) = _ by rw [h132]),
    fun_con (f_lof (1 : Int) (2 : Int) v133 e133 s134 s135) rfl rfl rfl rfl,
    fun_con (Fun.imp (as2 := [.o (.g [pB v133.1.1, pD v133.1.2, pB v133.2.1, pD v133.2.2]), .o (.g [pV (.bool false), pV (.slice none 0 0), pV (.bool false), pV (.slice none 0 0)])]) (f_rcmp v133 (rq none) v136 e136) (oka_imp ⟨fun _ _ _ h => h, fun _ _ _ h => zero_R h, trivial⟩) (fun _ _ _ h => h)) rfl rfl rfl rfl,
    e_bin (gives_h rfl) gives_k (gives_h rfl) (r_cmp (congrArg some e137)),
    e_fb (show pV (.bool v137) = _ by rw [h138]),
    fun_con (f_lof (-1 : Int) (2 : Int) v139 e139 s140 s141) rfl rfl rfl rfl,
    fun_con (f_rsign v139 v142 e142) rfl rfl rfl rfl,
    e_bin (gives_h rfl) gives_k (gives_h rfl) (r_cmp (congrArg some e143)),
    e_fb (show pV (.bool v143) = _ by rw [h144]),
    fun_con (f_lof (7 : Int) (2 : Int) v145 e145 s146 s147) rfl rfl rfl rfl,
    fun_con (f_lrounds v145 (3 : Int) (4 : Int) v148 e148) rfl rfl rfl rfl,
    e_un (gives_h rfl) (gives_h rfl) (fun W => by rw [← e149]; exact r_not W),
    e_fb (show pV (.bool v149) = _ by rw [h150]),
    fun_con (f_lof (-7 : Int) (2 : Int) v151 e151 s152 s153) rfl rfl rfl rfl,
    fun_con (f_lrounds v151 (-4 : Int) (-3 : Int) v154 e154) rfl rfl rfl rfl,
    e_un (gives_h rfl) (gives_h rfl) (fun W => by rw [← e155]; exact r_not W),
    e_fb (show pV (.bool v155) = _ by rw [h156]),
    fun_con (f_lof (4 : Int) (1 : Int) v157 e157 s158 s159) rfl rfl rfl rfl,
    fun_con (f_lrounds v157 (4 : Int) (4 : Int) v160 e160) rfl rfl rfl rfl,
    e_un (gives_h rfl) (gives_h rfl) (fun W => by rw [← e161]; exact r_not W),
    e_fb (show pV (.bool v161) = _ by rw [h162]),
    fun_con (f_lof (1 : Int) (2 : Int) v163 e163 s164 s165) rfl rfl rfl rfl,
    fun_con (f_rright v163 v166 e166) rfl rfl rfl rfl,
    e_un (gives_h rfl) (gives_h rfl) (fun W => by rw [← e167]; exact r_not W),
    e_fb (show pV (.bool v167) = _ by rw [h168]),
    fun_con (Fun.imp (as2 := [.o (.g [pV (.bool false), pV (.slice none 0 0), pV (.bool false), pV (.slice none 0 0)])]) (f_rright (rq none) v169 e169) (oka_imp ⟨fun _ _ _ h => zero_R h, trivial⟩) (fun _ _ _ h => h)) rfl rfl rfl rfl,
    e_fb (show pV (.bool v169) = _ by rw [h170]),
    fun_con (f_rparse hM hTS [50, 47, 52] v171 v172 e171 e172 s173) rfl rfl rfl rfl,
    fun_con (f_rparse hM hTS [51, 47, 49] v174 v175 e174 e175 s176) rfl rfl rfl rfl,
    fun_con (f_rparse hM hTS [45, 51, 47, 50] v177 v178 e177 e178 s179) rfl rfl rfl rfl,
    fun_con (f_lof (-3 : Int) (2 : Int) v180 e180 s181 s182) rfl rfl rfl rfl,
    fun_con (f_rtext (fun W h => (hTS W h).1) v180 v183 e183) rfl rfl rfl rfl,
    e_bin (gives_h rfl) gives_k (gives_h rfl) (fun W X Y => by rw [← e184]; exact r_seq W X Y),
    e_fb (show pV (.bool v184) = _ by rw [h185]),
    fun_con (f_lof (5 : Int) (1 : Int) v186 e186 s187 s188) rfl rfl rfl rfl,
    fun_con (f_rtext (fun W h => (hTS W h).1) v186 v189 e189) rfl rfl rfl rfl,
    e_bin (gives_h rfl) gives_k (gives_h rfl) (fun W X Y => by rw [← e190]; exact r_seq W X Y),
    e_fb (show pV (.bool v190) = _ by rw [h191]),
    e_un (gives_h rfl) (gives_h rfl) (fun W => by rw [← e192]; exact r_not W),
    e_fb (show pV (.bool v192) = _ by rw [h193]),
    e_un (gives_h rfl) (gives_h rfl) (fun W => by rw [← e194]; exact r_not W),
    e_fb (show pV (.bool v194) = _ by rw [h195]),
    fun_con (f_lgives v177 v178 (-3 : Int) (2 : Int) v196 e196 s197 s198) rfl rfl rfl rfl,
    trivial⟩ mixed (by kernel_rfl)) rfl rfl rfl rfl
theorem san_s2 : -9223372036854775808 ≤ (6 : Int) := by decide +kernel
theorem san_s3 : (6 : Int) < 9223372036854775808 := by decide +kernel
theorem san_s5 : -9223372036854775808 ≤ (-4 : Int) := by decide +kernel
theorem san_s6 : (-4 : Int) < 9223372036854775808 := by decide +kernel
theorem san_s10 : -9223372036854775808 ≤ (0 : Int) := by decide +kernel
theorem san_s11 : (0 : Int) < 9223372036854775808 := by decide +kernel
theorem san_s13 : -9223372036854775808 ≤ (-7 : Int) := by decide +kernel
theorem san_s14 : (-7 : Int) < 9223372036854775808 := by decide +kernel
theorem san_s18 : -9223372036854775808 ≤ (1 : Int) := by decide +kernel
theorem san_s19 : (1 : Int) < 9223372036854775808 := by decide +kernel
theorem san_s21 : -9223372036854775808 ≤ (0 : Int) := by decide +kernel
theorem san_s22 : (0 : Int) < 9223372036854775808 := by decide +kernel
theorem san_s26 : InR (-3 : Int) := by unfold InR; decide
theorem san_s27 : InR (2 : Int) := by unfold InR; decide
theorem san_h29 : (!((((ofX (nz (6 : Int)) (nz (-4 : Int))).isSome) && decide ((rq (ofX (nz (6 : Int)) (nz (-4 : Int)))) = rq (ofX (nz (-3 : Int)) (nz (2 : Int))))))) = false := by decide +kernel
theorem san_s31 : InR (0 : Int) := by unfold InR; decide
theorem san_s32 : InR (1 : Int) := by unfold InR; decide
theorem san_h34 : (!((((ofX (nz (0 : Int)) (nz (-7 : Int))).isSome) && decide ((rq (ofX (nz (0 : Int)) (nz (-7 : Int)))) = rq (ofX (nz (0 : Int)) (nz (1 : Int))))))) = false := by decide +kernel
theorem san_h37 : (!((!((ofX (nz (1 : Int)) (nz (0 : Int))).isSome) && decide ((rq (ofX (nz (1 : Int)) (nz (0 : Int)))) = rq none)))) = false := by decide +kernel
theorem san_s39 : InR ((2 : Int), (4 : Int)).1 := by unfold InR; decide
theorem san_s40 : InR ((2 : Int), (4 : Int)).2 := by unfold InR; decide
theorem san_s42 : InR (1 : Int) := by unfold InR; decide
theorem san_s43 : InR (2 : Int) := by unfold InR; decide
theorem san_h45 : (!((true && decide ((rq (fracR ((2 : Int), (4 : Int)).1 ((2 : Int), (4 : Int)).2)) = rq (ofX (nz (1 : Int)) (nz (2 : Int))))))) = false := by decide +kernel
theorem san_s47 : InR ((1 : Int), (-2 : Int)).1 := by unfold InR; decide
theorem san_s48 : InR ((1 : Int), (-2 : Int)).2 := by unfold InR; decide
theorem san_h51 : (!(decide ((rq (fracR ((1 : Int), (-2 : Int)).1 ((1 : Int), (-2 : Int)).2)) = (rq none)))) = false := by decide +kernel
theorem san_s53 : InR (1 : Int) := by unfold InR; decide
theorem san_s54 : InR (6 : Int) := by unfold InR; decide
theorem san_s56 : InR (1 : Int) := by unfold InR; decide
theorem san_s57 : InR (10 : Int) := by unfold InR; decide
theorem san_s61 : InR (1 : Int) := by unfold InR; decide
theorem san_s62 : InR (2 : Int) := by unfold InR; decide
theorem san_s64 : InR (2 : Int) := by unfold InR; decide
theorem san_s65 : InR (3 : Int) := by unfold InR; decide
theorem san_s69 : InR (2 : Int) := by unfold InR; decide
theorem san_s70 : InR (3 : Int) := by unfold InR; decide
theorem san_s72 : InR (3 : Int) := by unfold InR; decide
theorem san_s73 : InR (4 : Int) := by unfold InR; decide
theorem san_s77 : InR (4 : Int) := by unfold InR; decide
theorem san_s78 : InR (15 : Int) := by unfold InR; decide
theorem san_h80 : (!((((addR (qq (rq (ofX (nz (1 : Int)) (nz (6 : Int))))) (qq (rq (ofX (nz (1 : Int)) (nz (10 : Int)))))).isSome) && decide ((rq (addR (qq (rq (ofX (nz (1 : Int)) (nz (6 : Int))))) (qq (rq (ofX (nz (1 : Int)) (nz (10 : Int))))))) = rq (ofX (nz (4 : Int)) (nz (15 : Int))))))) = false := by decide +kernel
theorem san_s82 : InR (-1 : Int) := by unfold InR; decide
theorem san_s83 : InR (6 : Int) := by unfold InR; decide
theorem san_h85 : (!((((subR (qq (rq (ofX (nz (1 : Int)) (nz (2 : Int))))) (qq (rq (ofX (nz (2 : Int)) (nz (3 : Int)))))).isSome) && decide ((rq (subR (qq (rq (ofX (nz (1 : Int)) (nz (2 : Int))))) (qq (rq (ofX (nz (2 : Int)) (nz (3 : Int))))))) = rq (ofX (nz (-1 : Int)) (nz (6 : Int))))))) = false := by decide +kernel
theorem san_s87 : InR (1 : Int) := by unfold InR; decide
theorem san_s88 : InR (2 : Int) := by unfold InR; decide
theorem san_h90 : (!((((mulR (qq (rq (ofX (nz (2 : Int)) (nz (3 : Int))))) (qq (rq (ofX (nz (3 : Int)) (nz (4 : Int)))))).isSome) && decide ((rq (mulR (qq (rq (ofX (nz (2 : Int)) (nz (3 : Int))))) (qq (rq (ofX (nz (3 : Int)) (nz (4 : Int))))))) = rq (ofX (nz (1 : Int)) (nz (2 : Int))))))) = false := by decide +kernel
theorem san_s92 : InR (1 : Int) := by unfold InR; decide
theorem san_s93 : InR (2 : Int) := by unfold InR; decide
theorem san_s95 : InR (-3 : Int) := by unfold InR; decide
theorem san_s96 : InR (4 : Int) := by unfold InR; decide
theorem san_s100 : InR (1 : Int) := by unfold InR; decide
theorem san_s101 : InR (2 : Int) := by unfold InR; decide
theorem san_s103 : InR (0 : Int) := by unfold InR; decide
theorem san_s104 : InR (1 : Int) := by unfold InR; decide
theorem san_s108 : InR (-2 : Int) := by unfold InR; decide
theorem san_s109 : InR (3 : Int) := by unfold InR; decide
theorem san_h111 : (!((((divR (qq (rq (ofX (nz (1 : Int)) (nz (2 : Int))))) (qq (rq (ofX (nz (-3 : Int)) (nz (4 : Int)))))).isSome) && decide ((rq (divR (qq (rq (ofX (nz (1 : Int)) (nz (2 : Int))))) (qq (rq (ofX (nz (-3 : Int)) (nz (4 : Int))))))) = rq (ofX (nz (-2 : Int)) (nz (3 : Int))))))) = false := by decide +kernel
theorem san_h114 : (!((!((divR (qq (rq (ofX (nz (1 : Int)) (nz (2 : Int))))) (qq (rq (ofX (nz (0 : Int)) (nz (1 : Int)))))).isSome) && decide ((rq (divR (qq (rq (ofX (nz (1 : Int)) (nz (2 : Int))))) (qq (rq (ofX (nz (0 : Int)) (nz (1 : Int))))))) = rq none)))) = false := by decide +kernel
theorem san_s116 : InR (1 : Int) := by unfold InR; decide
theorem san_s117 : InR (3 : Int) := by unfold InR; decide
theorem san_s119 : InR (333 : Int) := by unfold InR; decide
theorem san_s120 : InR (1000 : Int) := by unfold InR; decide
theorem san_h123 : (((cmpO (qq (rq (ofX (nz (1 : Int)) (nz (3 : Int))))) (qq (rq (ofX (nz (333 : Int)) (nz (1000 : Int)))))) != (1 : Int))) = false := by decide +kernel
theorem san_s125 : InR (-1 : Int) := by unfold InR; decide
theorem san_s126 : InR (2 : Int) := by unfold InR; decide
theorem san_s128 : InR (-1 : Int) := by unfold InR; decide
theorem san_s129 : InR (3 : Int) := by unfold InR; decide
theorem san_h132 : (((cmpO (qq (rq (ofX (nz (-1 : Int)) (nz (2 : Int))))) (qq (rq (ofX (nz (-1 : Int)) (nz (3 : Int)))))) != (-1 : Int))) = false := by decide +kernel
theorem san_s134 : InR (1 : Int) := by unfold InR; decide
theorem san_s135 : InR (2 : Int) := by unfold InR; decide
theorem san_h138 : (((cmpO (qq (rq (ofX (nz (1 : Int)) (nz (2 : Int))))) (qq (rq none))) != (0 : Int))) = false := by decide +kernel
theorem san_s140 : InR (-1 : Int) := by unfold InR; decide
theorem san_s141 : InR (2 : Int) := by unfold InR; decide
theorem san_h144 : (((sgX (rq (ofX (nz (-1 : Int)) (nz (2 : Int)))).1 (rq (ofX (nz (-1 : Int)) (nz (2 : Int)))).2) != (-1 : Int))) = false := by decide +kernel
theorem san_s146 : InR (7 : Int) := by unfold InR; decide
theorem san_s147 : InR (2 : Int) := by unfold InR; decide
theorem san_h150 : (!(roundsB (rq (ofX (nz (7 : Int)) (nz (2 : Int)))) (3 : Int) (4 : Int))) = false := by decide +kernel
theorem san_s152 : InR (-7 : Int) := by unfold InR; decide
theorem san_s153 : InR (2 : Int) := by unfold InR; decide
theorem san_h156 : (!(roundsB (rq (ofX (nz (-7 : Int)) (nz (2 : Int)))) (-4 : Int) (-3 : Int))) = false := by decide +kernel
theorem san_s158 : InR (4 : Int) := by unfold InR; decide
theorem san_s159 : InR (1 : Int) := by unfold InR; decide
theorem san_h162 : (!(roundsB (rq (ofX (nz (4 : Int)) (nz (1 : Int)))) (4 : Int) (4 : Int))) = false := by decide +kernel
theorem san_s164 : InR (1 : Int) := by unfold InR; decide
theorem san_s165 : InR (2 : Int) := by unfold InR; decide
theorem san_h168 : (!(rrX (rq (ofX (nz (1 : Int)) (nz (2 : Int)))).1 (rq (ofX (nz (1 : Int)) (nz (2 : Int)))).2)) = false := by decide +kernel
theorem san_h170 : (rrX (rq none).1 (rq none).2) = false := by decide +kernel
theorem san_s173 : ([50, 47, 52] : List UInt8).length < 4294967281 := by decide +kernel
theorem san_s176 : ([51, 47, 49] : List UInt8).length < 4294967281 := by decide +kernel
theorem san_s179 : ([45, 51, 47, 50] : List UInt8).length < 4294967281 := by decide +kernel
theorem san_s181 : InR (-3 : Int) := by unfold InR; decide
theorem san_s182 : InR (2 : Int) := by unfold InR; decide
theorem san_h185 : ((((textR (rq (ofX (nz (-3 : Int)) (nz (2 : Int))))) : List UInt8) == [45, 51, 47, 50])) = true := by decide +kernel
theorem san_s187 : InR (5 : Int) := by unfold InR; decide
theorem san_s188 : InR (1 : Int) := by unfold InR; decide
theorem san_h191 : ((((textR (rq (ofX (nz (5 : Int)) (nz (1 : Int))))) : List UInt8) == [53])) = true := by decide +kernel
theorem san_h193 : (!(okP [50, 47, 52])) = true := by decide +kernel
theorem san_h195 : (!(okP [51, 47, 49])) = true := by decide +kernel
theorem san_s197 : InR (-3 : Int) := by unfold InR; decide
theorem san_s198 : InR (2 : Int) := by unfold InR; decide
theorem san_last : ((okP [45, 51, 47, 50]) && decide ((parR [45, 51, 47, 50]) = rq (ofX (nz (-3 : Int)) (nz (2 : Int))))) = true := by decide +kernel
theorem f_sanity {w0 : World} (hM : ∀ W, Below w0.heap.size w0 W → MaxT W) (hTS : ∀ W, Below w0.heap.size w0 W → PowT w0.heap.size W ∧ SynT w0.heap.size W) (o : Bool) (ho : true = o) : Fun (KN w0) Tryz.prog 10 [] (.o (.c (pB o))) := by
  rw [← ho]
  exact f_sanity_p hM hTS _ _ _ _ _ _ _ _ _ _ _ _ _ _ _ _ _ _ _ _ _ _ _ _ _ _ _ _ _ _ _ _ _ _ _ _ _ _ _ _ _ _ _ _ _ _ _ _ _ _ _ _ _ _ _ _ _ _ _ _ _ _ _ _ _ _ _ _ _ _ _ _ _ _ _ _ _ _ _ _ _ _ _ _ _ _ _ _ _ _ _ _ _ _ _ _ rfl rfl rfl rfl rfl rfl rfl rfl rfl rfl rfl rfl rfl rfl rfl rfl rfl rfl rfl rfl rfl rfl rfl rfl rfl rfl rfl rfl rfl rfl rfl rfl rfl rfl rfl rfl rfl rfl rfl rfl rfl rfl rfl rfl rfl rfl rfl rfl rfl rfl rfl rfl rfl rfl rfl rfl rfl rfl rfl rfl rfl rfl rfl rfl rfl rfl rfl rfl rfl rfl rfl rfl rfl rfl rfl rfl rfl rfl rfl rfl rfl rfl rfl rfl rfl rfl rfl rfl rfl rfl rfl rfl rfl rfl rfl san_last san_s2 san_s3 san_s5 san_s6 san_s10 san_s11 san_s13 san_s14 san_s18 san_s19 san_s21 san_s22 san_s26 san_s27 san_h29 san_s31 san_s32 san_h34 san_h37 san_s39 san_s40 san_s42 san_s43 san_h45 san_s47 san_s48 san_h51 san_s53 san_s54 san_s56 san_s57 san_s61 san_s62 san_s64 san_s65 san_s69 san_s70 san_s72 san_s73 san_s77 san_s78 san_h80 san_s82 san_s83 san_h85 san_s87 san_s88 san_h90 san_s92 san_s93 san_s95 san_s96 san_s100 san_s101 san_s103 san_s104 san_s108 san_s109 san_h111 san_h114 san_s116 san_s117 san_s119 san_s120 san_h123 san_s125 san_s126 san_s128 san_s129 san_h132 san_s134 san_s135 san_h138 san_s140 san_s141 san_h144 san_s146 san_s147 san_h150 san_s152 san_s153 san_h156 san_s158 san_s159 san_h162 san_s164 san_s165 san_h168 san_h170 san_s173 san_s176 san_s179 san_s181 san_s182 san_h185 san_s187 san_s188 san_h191 san_h193 san_h195 san_s197 san_s198
end Go.Proofs.YtccjiodohphgnaaGreatDoor
