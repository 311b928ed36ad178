/- What the program's functions answer, call by call, and the row of a law; no conditions beyond each theorem's own. Written by a program of this repo (xprint.py, over the kit's printer, with contracts of the session's own). Lean checks it. -/
import Derived.Test.YtmfbijfghonnjaaPAx0
import Derived.Test.YtmfbijfghonnjaaPAx2
namespace Go.Proofs.Ytmfbijfghonnjaa.PA
open Go.RowKit Go.Proofs.YtmfbijfghonnjaaW.PrintWords Go.Proofs.YtmfbijfghonnjaaW.PrintLast Go.Proofs.YtmfbijfghonnjaaW.PrintMore
attribute [local go_sem] max2_int min2_int max_two min_two max_three min_three max_four min_four   -- for this text's walks alone
set_option linter.unusedVariables false
set_option linter.unusedSimpArgs false

/-! ### citadelref01_highSigned: function 28 -/
def citadelref01_highSigned.j0 : Nat → Int → Int → Bool → Int → Bool → Option (Int)
  | 0, _, _, _, _, _ => none
  | k + 1, x0, x2, x3, x9, x17 => if x17 = true then (if x3 = true then ((citadelref01_neg.f x2).bind fun t168 => (if t168 = true then (some (IntKind.u64.wrap ((IntKind.u64.wrap (x9 - x2)) - x0))) else (some (IntKind.u64.wrap (x9 - x2))))) else (some (IntKind.u64.wrap (x9 - x2)))) else (if x3 = true then ((citadelref01_neg.f x2).bind fun t169 => (if t169 = true then (some (IntKind.u64.wrap (x9 - x0))) else (some x9))) else (some x9))
def citadelref01_highSigned.f (k : Nat) (a0 : Int) (a1 : Bool) (a2 : Int) (a3 : Bool) : Option (Int) := (citadelref01_High.f a0 a2).bind fun t166 => (if a1 = true then ((citadelref01_neg.f a0).bind fun t167 => (citadelref01_highSigned.j0 k a0 a2 a3 t166 t167)) else (citadelref01_highSigned.j0 k a0 a2 a3 t166 false))
theorem citadelref01_highSigned.mono_l : ∀ k, (∀ y0 y1 y2 y3 y4, LeO (citadelref01_highSigned.j0 k y0 y1 y2 y3 y4) (citadelref01_highSigned.j0 (k + 1) y0 y1 y2 y3 y4))
  | 0 => fun _ _ _ _ _ r h => by simp [citadelref01_highSigned.j0] at h
  | k + 1 => by
    have ih0 := citadelref01_highSigned.mono_l k
    · intro y0 y1 y2 y3 y4
      unfold citadelref01_highSigned.j0
      repeat' first
      | (with_reducible exact ih0 _ _ _ _ _)
      | (with_reducible exact LeO.refl _)
      | (with_reducible exact LeO.none _)
      | (with_reducible refine LeO.ite ?_ ?_)
      | (with_reducible refine LeO.bind ?_ (fun _ => ?_))
      | exact ih0 _ _ _ _ _
      | exact LeO.none _
      | refine LeO.ite ?_ ?_
      | refine LeO.bind ?_ (fun _ => ?_)
theorem citadelref01_highSigned.mono : ∀ a0 a1 a2 a3 k, LeO (citadelref01_highSigned.f k a0 a1 a2 a3) (citadelref01_highSigned.f (k + 1) a0 a1 a2 a3) := by
  intro a0 a1 a2 a3 k
  have ih0 := citadelref01_highSigned.mono_l k
  unfold citadelref01_highSigned.f
  repeat' first
      | (with_reducible exact ih0 _ _ _ _ _)
      | (with_reducible exact LeO.refl _)
      | (with_reducible exact LeO.none _)
      | (with_reducible refine LeO.ite ?_ ?_)
      | (with_reducible refine LeO.bind ?_ (fun _ => ?_))
      | exact ih0 _ _ _ _ _
      | exact LeO.none _
      | refine LeO.ite ?_ ?_
      | refine LeO.bind ?_ (fun _ => ?_)
set_option maxHeartbeats 8000000 in
set_option maxRecDepth 100000 in
theorem citadelref01_highSigned.calls (k : Nat) (a0 : Int) (a1 : Bool) (a2 : Int) (a3 : Bool) (r : Int) (w : World) (h : citadelref01_highSigned.f k a0 a1 a2 a3 = some r) :
    Calls Try.prog 28 #[.int .u64 a0, .bool a1, .int .u64 a2, .bool a3] w fun e w' => e = .returned (.int .u64 r) ∧ Drawn0 w w' := by
  have H : ((citadelref01_High.f a0 a2).bind fun t166 => (if a1 = true then ((citadelref01_neg.f a0).bind fun t167 => (citadelref01_highSigned.j0 k a0 a2 a3 t166 t167)) else (citadelref01_highSigned.j0 k a0 a2 a3 t166 false))) = some r := h
  clear h
  replace H := Option.bind_eq_some_iff.mp H
  obtain ⟨t166, A50, H⟩ := H
  replace H : (if a1 = true then ((citadelref01_neg.f a0).bind fun t167 => (citadelref01_highSigned.j0 k a0 a2 a3 t166 t167)) else (citadelref01_highSigned.j0 k a0 a2 a3 t166 false)) = some r := H
  have A5 := Aside0.mk A50
  clear A50
  have HC6 := Aside0.mk H
  clear H
  go_enter Try.func28, Try.ntmps28
  go_upto_region 2 with (first | ((with_reducible refine gate_callee (f := 29) rfl ?_); refine goesL_ (some 12) rfl rfl Try.func29 (by kernel_rfl) rfl #[.int .u64 a0, .int .u64 a2] rfl (by (try simp only [List.map_toArray, List.map_cons, List.map_nil]); first | done | rfl | (simp only [List.length_drop, List.length_take]; rfl)) ?_; (with_reducible refine (citadelref01_High.calls a0 a2 t166 _ A5.out).mono ?_); rintro e w' ⟨rfl, ⟨nd, rfl⟩⟩; refine ⟨_, rfl, ?_⟩))
  (try simp only [Act.put, List.setIfInBounds_toArray, List.set_cons_zero, List.set_cons_succ])
  go_cut [17] (fun v17 wc => ∃ (kq : Nat) (x17_5 : Bool), v17 = .bool x17_5 ∧ Aside0 (citadelref01_highSigned.j0 kq a0 a2 a3 t166 x17_5 = some r) ∧ Aside0 (kq ≤ k) ∧ Drawn0 w wc)
  case first =>
    have H := HC6.out
    clear HC6
    by_cases c7 : a1 = true
    · subst c7
      have H1 : ((citadelref01_neg.f a0).bind fun t167 => (citadelref01_highSigned.j0 k a0 a2 a3 t166 t167)) = some r := by rw [if_pos rfl] at H; exact H
      clear H
      have H := H1
      clear H1
      replace H := Option.bind_eq_some_iff.mp H
      obtain ⟨t167, A80, H⟩ := H
      replace H : (citadelref01_highSigned.j0 k a0 a2 a3 t166 t167) = some r := H
      have A8 := Aside0.mk A80
      clear A80
      have H' := Aside0.mk H
      clear H
      go_wp2_with (first | (go_at_call 55; (with_reducible refine (citadelref01_neg.calls a0 t167 _ A8.out).mono ?_); rintro e w' ⟨rfl, ⟨nd, rfl⟩⟩))
      go_meet
      case rel => exact ⟨_, (t167), (by first | rfl | (simp; done) | (simp [*]; done)), H', ⟨by first | omega | exact Nat.le_refl _⟩, by repeat (first | exact Drawn0.refl _ | apply Drawn0.step)⟩
    · replace c7 := Bool.eq_false_iff.mpr c7
      subst c7
      have H1 : (citadelref01_highSigned.j0 k a0 a2 a3 t166 false) = some r := by rw [if_neg (show ¬ (false = true) by decide)] at H; exact H
      clear H
      have H := H1
      clear H1
      have H' := Aside0.mk H
      clear H
      go_wp2
      go_meet
      case rel => exact ⟨_, (false), (by first | rfl | (simp; done) | (simp [*]; done)), H', ⟨by first | omega | exact Nat.le_refl _⟩, by repeat (first | exact Drawn0.refl _ | apply Drawn0.step)⟩
  case rest =>
    clear HC6
    try clear c2
    try clear p2
    try clear c7
    obtain ⟨kq, x17_5, rfl, HA, HJ5, ⟨mc5, rfl⟩⟩ := hcut
    cases kq with
    | zero => exact absurd HA.out (by simp [citadelref01_highSigned.j0])
    | succ kj5 =>
      have H := HA.out
      clear HA
      simp only [citadelref01_highSigned.j0] at H
      by_cases c9 : x17_5 = true
      · subst c9
        have H1 : (if a3 = true then ((citadelref01_neg.f a2).bind fun t168 => (if t168 = true then (some (IntKind.u64.wrap ((IntKind.u64.wrap (t166 - a2)) - a0))) else (some (IntKind.u64.wrap (t166 - a2))))) else (some (IntKind.u64.wrap (t166 - a2)))) = some r := by rw [if_pos rfl] at H; exact H
        clear H
        have H := H1
        clear H1
        by_cases c10 : a3 = true
        · subst c10
          have H1 : ((citadelref01_neg.f a2).bind fun t168 => (if t168 = true then (some (IntKind.u64.wrap ((IntKind.u64.wrap (t166 - a2)) - a0))) else (some (IntKind.u64.wrap (t166 - a2))))) = some r := by rw [if_pos rfl] at H; exact H
          clear H
          have H := H1
          clear H1
          replace H := Option.bind_eq_some_iff.mp H
          obtain ⟨t168, A110, H⟩ := H
          replace H : (if t168 = true then (some (IntKind.u64.wrap ((IntKind.u64.wrap (t166 - a2)) - a0))) else (some (IntKind.u64.wrap (t166 - a2)))) = some r := H
          have A11 := Aside0.mk A110
          clear A110
          by_cases c12 : t168 = true
          · subst c12
            have H1 : (some (IntKind.u64.wrap ((IntKind.u64.wrap (t166 - a2)) - a0))) = some r := by rw [if_pos rfl] at H; exact H
            clear H
            have H := H1
            clear H1
            obtain rfl := Option.some.inj H
            go_wp2_with (first | (go_at_call 55; (with_reducible refine (citadelref01_neg.calls a2 true _ A11.out).mono ?_); rintro e w' ⟨rfl, ⟨nd, rfl⟩⟩))
            go_ret
            exact ⟨by first | rfl | (simp; done) | (simp [*]; done), by repeat (first | exact Drawn0.refl _ | apply Drawn0.step)⟩
          · replace c12 := Bool.eq_false_iff.mpr c12
            subst c12
            have H1 : (some (IntKind.u64.wrap (t166 - a2))) = some r := by rw [if_neg (show ¬ (false = true) by decide)] at H; exact H
            clear H
            have H := H1
            clear H1
            obtain rfl := Option.some.inj H
            go_wp2_with (first | (go_at_call 55; (with_reducible refine (citadelref01_neg.calls a2 false _ A11.out).mono ?_); rintro e w' ⟨rfl, ⟨nd, rfl⟩⟩))
            go_ret
            exact ⟨by first | rfl | (simp; done) | (simp [*]; done), by repeat (first | exact Drawn0.refl _ | apply Drawn0.step)⟩
        · replace c10 := Bool.eq_false_iff.mpr c10
          subst c10
          have H1 : (some (IntKind.u64.wrap (t166 - a2))) = some r := by rw [if_neg (show ¬ (false = true) by decide)] at H; exact H
          clear H
          have H := H1
          clear H1
          obtain rfl := Option.some.inj H
          go_wp2
          go_ret
          exact ⟨by first | rfl | (simp; done) | (simp [*]; done), by repeat (first | exact Drawn0.refl _ | apply Drawn0.step)⟩
      · replace c9 := Bool.eq_false_iff.mpr c9
        subst c9
        have H1 : (if a3 = true then ((citadelref01_neg.f a2).bind fun t169 => (if t169 = true then (some (IntKind.u64.wrap (t166 - a0))) else (some t166))) else (some t166)) = some r := by rw [if_neg (show ¬ (false = true) by decide)] at H; exact H
        clear H
        have H := H1
        clear H1
        by_cases c13 : a3 = true
        · subst c13
          have H1 : ((citadelref01_neg.f a2).bind fun t169 => (if t169 = true then (some (IntKind.u64.wrap (t166 - a0))) else (some t166))) = some r := by rw [if_pos rfl] at H; exact H
          clear H
          have H := H1
          clear H1
          replace H := Option.bind_eq_some_iff.mp H
          obtain ⟨t169, A140, H⟩ := H
          replace H : (if t169 = true then (some (IntKind.u64.wrap (t166 - a0))) else (some t166)) = some r := H
          have A14 := Aside0.mk A140
          clear A140
          by_cases c15 : t169 = true
          · subst c15
            have H1 : (some (IntKind.u64.wrap (t166 - a0))) = some r := by rw [if_pos rfl] at H; exact H
            clear H
            have H := H1
            clear H1
            obtain rfl := Option.some.inj H
            go_wp2_with (first | (go_at_call 55; (with_reducible refine (citadelref01_neg.calls a2 true _ A14.out).mono ?_); rintro e w' ⟨rfl, ⟨nd, rfl⟩⟩))
            go_ret
            exact ⟨by first | rfl | (simp; done) | (simp [*]; done), by repeat (first | exact Drawn0.refl _ | apply Drawn0.step)⟩
          · replace c15 := Bool.eq_false_iff.mpr c15
            subst c15
            have H1 : (some t166) = some r := by rw [if_neg (show ¬ (false = true) by decide)] at H; exact H
            clear H
            have H := H1
            clear H1
            obtain rfl := Option.some.inj H
            go_wp2_with (first | (go_at_call 55; (with_reducible refine (citadelref01_neg.calls a2 false _ A14.out).mono ?_); rintro e w' ⟨rfl, ⟨nd, rfl⟩⟩))
            go_ret
            exact ⟨by first | rfl | (simp; done) | (simp [*]; done), by repeat (first | exact Drawn0.refl _ | apply Drawn0.step)⟩
        · replace c13 := Bool.eq_false_iff.mpr c13
          subst c13
          have H1 : (some t166) = some r := by rw [if_neg (show ¬ (false = true) by decide)] at H; exact H
          clear H
          have H := H1
          clear H1
          obtain rfl := Option.some.inj H
          go_wp2
          go_ret
          exact ⟨by first | rfl | (simp; done) | (simp [*]; done), by repeat (first | exact Drawn0.refl _ | apply Drawn0.step)⟩

/-! ### citadelref01_abs: function 56 -/
def citadelref01_abs.f (a0 : Int) : Option (Int) := (citadelref01_neg.f a0).bind fun t170 => (if t170 = true then (some (IntKind.u64.wrap (-a0))) else (some a0))
set_option maxHeartbeats 8000000 in
set_option maxRecDepth 100000 in
theorem citadelref01_abs.calls (a0 : Int) (r : Int) (w : World) (h : citadelref01_abs.f a0 = some r) :
    Calls Try.prog 56 #[.int .u64 a0] w fun e w' => e = .returned (.int .u64 r) ∧ Drawn0 w w' := by
  have H : ((citadelref01_neg.f a0).bind fun t170 => (if t170 = true then (some (IntKind.u64.wrap (-a0))) else (some a0))) = some r := h
  clear h
  replace H := Option.bind_eq_some_iff.mp H
  obtain ⟨t170, A20, H⟩ := H
  replace H : (if t170 = true then (some (IntKind.u64.wrap (-a0))) else (some a0)) = some r := H
  have A2 := Aside0.mk A20
  clear A20
  by_cases c3 : t170 = true
  · subst c3
    have H1 : (some (IntKind.u64.wrap (-a0))) = some r := by rw [if_pos rfl] at H; exact H
    clear H
    have H := H1
    clear H1
    obtain rfl := Option.some.inj H
    go_enter Try.func56, Try.ntmps56
    go_wp2_with (first | ((with_reducible refine gate_callee (f := 55) rfl ?_); refine goesL_ (some 4) rfl rfl Try.func55 (by kernel_rfl) rfl #[.int .u64 a0] rfl (by (try simp only [List.map_toArray, List.map_cons, List.map_nil]); first | done | rfl | (simp only [List.length_drop, List.length_take]; rfl)) ?_; (with_reducible refine (citadelref01_neg.calls a0 true _ A2.out).mono ?_); rintro e w' ⟨rfl, ⟨nd, rfl⟩⟩; refine ⟨_, rfl, ?_⟩))
    go_ret
    exact ⟨by first | rfl | (simp; done) | (simp [*]; done), by repeat (first | exact Drawn0.refl _ | apply Drawn0.step)⟩
  · replace c3 := Bool.eq_false_iff.mpr c3
    subst c3
    have H1 : (some a0) = some r := by rw [if_neg (show ¬ (false = true) by decide)] at H; exact H
    clear H
    have H := H1
    clear H1
    obtain rfl := Option.some.inj H
    go_enter Try.func56, Try.ntmps56
    go_wp2_with (first | ((with_reducible refine gate_callee (f := 55) rfl ?_); refine goesL_ (some 4) rfl rfl Try.func55 (by kernel_rfl) rfl #[.int .u64 a0] rfl (by (try simp only [List.map_toArray, List.map_cons, List.map_nil]); first | done | rfl | (simp only [List.length_drop, List.length_take]; rfl)) ?_; (with_reducible refine (citadelref01_neg.calls a0 false _ A2.out).mono ?_); rintro e w' ⟨rfl, ⟨nd, rfl⟩⟩; refine ⟨_, rfl, ?_⟩))
    go_ret
    exact ⟨by first | rfl | (simp; done) | (simp [*]; done), by repeat (first | exact Drawn0.refl _ | apply Drawn0.step)⟩

/-! ### citadelref01_div: function 30 -/
def citadelref01_div.f (a0 : Int) (a1 : Int) : Option (Int) := if a1 = 0 then (some 18446744073709551615) else ((citadelref01_abs.f a0).bind fun t171 => ((citadelref01_abs.f a1).bind fun t172 => (if t172 = 0 then (none) else ((citadelref01_neg.f a0).bind fun t173 => ((citadelref01_neg.f a1).bind fun t174 => (if (t173 != t174) = true then (some (IntKind.u64.wrap (-(IntKind.u64.wrap (Int.tdiv t171 t172))))) else (some (IntKind.u64.wrap (Int.tdiv t171 t172)))))))))
set_option maxHeartbeats 8000000 in
set_option maxRecDepth 100000 in
theorem citadelref01_div.calls (a0 : Int) (a1 : Int) (r : Int) (w : World) (h : citadelref01_div.f a0 a1 = some r) :
    Calls Try.prog 30 #[.int .u64 a0, .int .u64 a1] w fun e w' => e = .returned (.int .u64 r) ∧ Drawn0 w w' := by
  have H : (if a1 = 0 then (some 18446744073709551615) else ((citadelref01_abs.f a0).bind fun t171 => ((citadelref01_abs.f a1).bind fun t172 => (if t172 = 0 then (none) else ((citadelref01_neg.f a0).bind fun t173 => ((citadelref01_neg.f a1).bind fun t174 => (if (t173 != t174) = true then (some (IntKind.u64.wrap (-(IntKind.u64.wrap (Int.tdiv t171 t172))))) else (some (IntKind.u64.wrap (Int.tdiv t171 t172)))))))))) = some r := h
  clear h
  by_cases c3 : a1 = 0
  · rw [if_pos c3] at H
    have c3b0 : (a1 == 0) = true := beq_iff_eq.mpr c3
    have c3b1 : (a1 != 0) = false := bne_eq_false_iff_eq.mpr c3
    clear c3
    obtain rfl := Option.some.inj H
    go_enter Try.func30, Try.ntmps30
    go_wp2
    go_ret
    exact ⟨by first | rfl | (simp; done) | (simp [*]; done), by repeat (first | exact Drawn0.refl _ | apply Drawn0.step)⟩
  · rw [if_neg c3] at H
    have c3b0 : (a1 == 0) = false := beq_eq_false_iff_ne.mpr c3
    have c3b1 : (a1 != 0) = true := bne_iff_ne.mpr c3
    replace H := Option.bind_eq_some_iff.mp H
    obtain ⟨t171, A40, H⟩ := H
    replace H : ((citadelref01_abs.f a1).bind fun t172 => (if t172 = 0 then (none) else ((citadelref01_neg.f a0).bind fun t173 => ((citadelref01_neg.f a1).bind fun t174 => (if (t173 != t174) = true then (some (IntKind.u64.wrap (-(IntKind.u64.wrap (Int.tdiv t171 t172))))) else (some (IntKind.u64.wrap (Int.tdiv t171 t172)))))))) = some r := H
    have A4 := Aside0.mk A40
    clear A40
    replace H := Option.bind_eq_some_iff.mp H
    obtain ⟨t172, A50, H⟩ := H
    replace H : (if t172 = 0 then (none) else ((citadelref01_neg.f a0).bind fun t173 => ((citadelref01_neg.f a1).bind fun t174 => (if (t173 != t174) = true then (some (IntKind.u64.wrap (-(IntKind.u64.wrap (Int.tdiv t171 t172))))) else (some (IntKind.u64.wrap (Int.tdiv t171 t172))))))) = some r := H
    have A5 := Aside0.mk A50
    clear A50
    by_cases c6 : t172 = 0
    · rw [if_pos c6] at H
      exact absurd H (by simp)
    · rw [if_neg c6] at H
      have c6b0 : (t172 == 0) = false := beq_eq_false_iff_ne.mpr c6
      have c6b1 : (t172 != 0) = true := bne_iff_ne.mpr c6
      replace H := Option.bind_eq_some_iff.mp H
      obtain ⟨t173, A70, H⟩ := H
      replace H : ((citadelref01_neg.f a1).bind fun t174 => (if (t173 != t174) = true then (some (IntKind.u64.wrap (-(IntKind.u64.wrap (Int.tdiv t171 t172))))) else (some (IntKind.u64.wrap (Int.tdiv t171 t172))))) = some r := H
      have A7 := Aside0.mk A70
      clear A70
      replace H := Option.bind_eq_some_iff.mp H
      obtain ⟨t174, A80, H⟩ := H
      replace H : (if (t173 != t174) = true then (some (IntKind.u64.wrap (-(IntKind.u64.wrap (Int.tdiv t171 t172))))) else (some (IntKind.u64.wrap (Int.tdiv t171 t172)))) = some r := H
      have A8 := Aside0.mk A80
      clear A80
      by_cases c9 : (t173 != t174) = true
      · rw [if_pos c9] at H
        have c9b0 : (t173 != t174) = true := c9
        (try (have c9b1 : decide (t173 = t174) = false := by simpa using c9))
        (try (have c9b2 : (t173 == t174) = false := by simpa using c9))
        (try (have c9b3 : ¬ (t173 = t174) := by simpa using c9))
        clear c9
        obtain rfl := Option.some.inj H
        go_enter Try.func30, Try.ntmps30
        go_wp2_with (first | ((with_reducible refine gate_callee (f := 56) rfl ?_); refine goesL_ (some 9) rfl rfl Try.func56 (by kernel_rfl) rfl #[.int .u64 a0] rfl (by (try simp only [List.map_toArray, List.map_cons, List.map_nil]); first | done | rfl | (simp only [List.length_drop, List.length_take]; rfl)) ?_; (with_reducible refine (citadelref01_abs.calls a0 t171 _ A4.out).mono ?_); rintro e w' ⟨rfl, ⟨nd, rfl⟩⟩; refine ⟨_, rfl, ?_⟩) | ((with_reducible refine gate_callee (f := 56) rfl ?_); refine goesL_ (some 11) rfl rfl Try.func56 (by kernel_rfl) rfl #[.int .u64 a1] rfl (by (try simp only [List.map_toArray, List.map_cons, List.map_nil]); first | done | rfl | (simp only [List.length_drop, List.length_take]; rfl)) ?_; (with_reducible refine (citadelref01_abs.calls a1 t172 _ A5.out).mono ?_); rintro e w' ⟨rfl, ⟨nd, rfl⟩⟩; refine ⟨_, rfl, ?_⟩) | ((with_reducible refine gate_callee (f := 55) rfl ?_); refine goesL_ (some 14) rfl rfl Try.func55 (by kernel_rfl) rfl #[.int .u64 a0] rfl (by (try simp only [List.map_toArray, List.map_cons, List.map_nil]); first | done | rfl | (simp only [List.length_drop, List.length_take]; rfl)) ?_; (with_reducible refine (citadelref01_neg.calls a0 t173 _ A7.out).mono ?_); rintro e w' ⟨rfl, ⟨nd, rfl⟩⟩; refine ⟨_, rfl, ?_⟩) | ((with_reducible refine gate_callee (f := 55) rfl ?_); refine goesL_ (some 16) rfl rfl Try.func55 (by kernel_rfl) rfl #[.int .u64 a1] rfl (by (try simp only [List.map_toArray, List.map_cons, List.map_nil]); first | done | rfl | (simp only [List.length_drop, List.length_take]; rfl)) ?_; (with_reducible refine (citadelref01_neg.calls a1 t174 _ A8.out).mono ?_); rintro e w' ⟨rfl, ⟨nd, rfl⟩⟩; refine ⟨_, rfl, ?_⟩))
        go_ret
        exact ⟨by first | rfl | (simp; done) | (simp [*]; done), by repeat (first | exact Drawn0.refl _ | apply Drawn0.step)⟩
      · rw [if_neg c9] at H
        have c9b0 : (t173 != t174) = false := by simpa using c9
        (try (have c9b1 : decide (t173 = t174) = true := by simpa using c9))
        (try (have c9b2 : (t173 == t174) = true := by simpa using c9))
        clear c9
        obtain rfl := Option.some.inj H
        go_enter Try.func30, Try.ntmps30
        go_wp2_with (first | ((with_reducible refine gate_callee (f := 56) rfl ?_); refine goesL_ (some 9) rfl rfl Try.func56 (by kernel_rfl) rfl #[.int .u64 a0] rfl (by (try simp only [List.map_toArray, List.map_cons, List.map_nil]); first | done | rfl | (simp only [List.length_drop, List.length_take]; rfl)) ?_; (with_reducible refine (citadelref01_abs.calls a0 t171 _ A4.out).mono ?_); rintro e w' ⟨rfl, ⟨nd, rfl⟩⟩; refine ⟨_, rfl, ?_⟩) | ((with_reducible refine gate_callee (f := 56) rfl ?_); refine goesL_ (some 11) rfl rfl Try.func56 (by kernel_rfl) rfl #[.int .u64 a1] rfl (by (try simp only [List.map_toArray, List.map_cons, List.map_nil]); first | done | rfl | (simp only [List.length_drop, List.length_take]; rfl)) ?_; (with_reducible refine (citadelref01_abs.calls a1 t172 _ A5.out).mono ?_); rintro e w' ⟨rfl, ⟨nd, rfl⟩⟩; refine ⟨_, rfl, ?_⟩) | ((with_reducible refine gate_callee (f := 55) rfl ?_); refine goesL_ (some 14) rfl rfl Try.func55 (by kernel_rfl) rfl #[.int .u64 a0] rfl (by (try simp only [List.map_toArray, List.map_cons, List.map_nil]); first | done | rfl | (simp only [List.length_drop, List.length_take]; rfl)) ?_; (with_reducible refine (citadelref01_neg.calls a0 t173 _ A7.out).mono ?_); rintro e w' ⟨rfl, ⟨nd, rfl⟩⟩; refine ⟨_, rfl, ?_⟩) | ((with_reducible refine gate_callee (f := 55) rfl ?_); refine goesL_ (some 16) rfl rfl Try.func55 (by kernel_rfl) rfl #[.int .u64 a1] rfl (by (try simp only [List.map_toArray, List.map_cons, List.map_nil]); first | done | rfl | (simp only [List.length_drop, List.length_take]; rfl)) ?_; (with_reducible refine (citadelref01_neg.calls a1 t174 _ A8.out).mono ?_); rintro e w' ⟨rfl, ⟨nd, rfl⟩⟩; refine ⟨_, rfl, ?_⟩))
        go_ret
        exact ⟨by first | rfl | (simp; done) | (simp [*]; done), by repeat (first | exact Drawn0.refl _ | apply Drawn0.step)⟩

/-! ### citadelref01_rem: function 31 -/
def citadelref01_rem.f (a0 : Int) (a1 : Int) : Option (Int) := if a1 = 0 then (some a0) else ((citadelref01_abs.f a0).bind fun t175 => ((citadelref01_abs.f a1).bind fun t176 => (if t176 = 0 then (none) else ((citadelref01_neg.f a0).bind fun t177 => (if t177 = true then (some (IntKind.u64.wrap (-(Int.tmod t175 t176)))) else (some (Int.tmod t175 t176)))))))
set_option maxHeartbeats 8000000 in
set_option maxRecDepth 100000 in
theorem citadelref01_rem.calls (a0 : Int) (a1 : Int) (r : Int) (w : World) (h : citadelref01_rem.f a0 a1 = some r) :
    Calls Try.prog 31 #[.int .u64 a0, .int .u64 a1] w fun e w' => e = .returned (.int .u64 r) ∧ Drawn0 w w' := by
  have H : (if a1 = 0 then (some a0) else ((citadelref01_abs.f a0).bind fun t175 => ((citadelref01_abs.f a1).bind fun t176 => (if t176 = 0 then (none) else ((citadelref01_neg.f a0).bind fun t177 => (if t177 = true then (some (IntKind.u64.wrap (-(Int.tmod t175 t176)))) else (some (Int.tmod t175 t176)))))))) = some r := h
  clear h
  by_cases c3 : a1 = 0
  · rw [if_pos c3] at H
    have c3b0 : (a1 == 0) = true := beq_iff_eq.mpr c3
    have c3b1 : (a1 != 0) = false := bne_eq_false_iff_eq.mpr c3
    clear c3
    obtain rfl := Option.some.inj H
    go_enter Try.func31, Try.ntmps31
    go_wp2
    go_ret
    exact ⟨by first | rfl | (simp; done) | (simp [*]; done), by repeat (first | exact Drawn0.refl _ | apply Drawn0.step)⟩
  · rw [if_neg c3] at H
    have c3b0 : (a1 == 0) = false := beq_eq_false_iff_ne.mpr c3
    have c3b1 : (a1 != 0) = true := bne_iff_ne.mpr c3
    replace H := Option.bind_eq_some_iff.mp H
    obtain ⟨t175, A40, H⟩ := H
    replace H : ((citadelref01_abs.f a1).bind fun t176 => (if t176 = 0 then (none) else ((citadelref01_neg.f a0).bind fun t177 => (if t177 = true then (some (IntKind.u64.wrap (-(Int.tmod t175 t176)))) else (some (Int.tmod t175 t176)))))) = some r := H
    have A4 := Aside0.mk A40
    clear A40
    replace H := Option.bind_eq_some_iff.mp H
    obtain ⟨t176, A50, H⟩ := H
    replace H : (if t176 = 0 then (none) else ((citadelref01_neg.f a0).bind fun t177 => (if t177 = true then (some (IntKind.u64.wrap (-(Int.tmod t175 t176)))) else (some (Int.tmod t175 t176))))) = some r := H
    have A5 := Aside0.mk A50
    clear A50
    by_cases c6 : t176 = 0
    · rw [if_pos c6] at H
      exact absurd H (by simp)
    · rw [if_neg c6] at H
      have c6b0 : (t176 == 0) = false := beq_eq_false_iff_ne.mpr c6
      have c6b1 : (t176 != 0) = true := bne_iff_ne.mpr c6
      replace H := Option.bind_eq_some_iff.mp H
      obtain ⟨t177, A70, H⟩ := H
      replace H : (if t177 = true then (some (IntKind.u64.wrap (-(Int.tmod t175 t176)))) else (some (Int.tmod t175 t176))) = some r := H
      have A7 := Aside0.mk A70
      clear A70
      by_cases c8 : t177 = true
      · subst c8
        have H1 : (some (IntKind.u64.wrap (-(Int.tmod t175 t176)))) = some r := by rw [if_pos rfl] at H; exact H
        clear H
        have H := H1
        clear H1
        obtain rfl := Option.some.inj H
        go_enter Try.func31, Try.ntmps31
        go_wp2_with (first | ((with_reducible refine gate_callee (f := 56) rfl ?_); refine goesL_ (some 10) rfl rfl Try.func56 (by kernel_rfl) rfl #[.int .u64 a0] rfl (by (try simp only [List.map_toArray, List.map_cons, List.map_nil]); first | done | rfl | (simp only [List.length_drop, List.length_take]; rfl)) ?_; (with_reducible refine (citadelref01_abs.calls a0 t175 _ A4.out).mono ?_); rintro e w' ⟨rfl, ⟨nd, rfl⟩⟩; refine ⟨_, rfl, ?_⟩) | ((with_reducible refine gate_callee (f := 56) rfl ?_); refine goesL_ (some 12) rfl rfl Try.func56 (by kernel_rfl) rfl #[.int .u64 a1] rfl (by (try simp only [List.map_toArray, List.map_cons, List.map_nil]); first | done | rfl | (simp only [List.length_drop, List.length_take]; rfl)) ?_; (with_reducible refine (citadelref01_abs.calls a1 t176 _ A5.out).mono ?_); rintro e w' ⟨rfl, ⟨nd, rfl⟩⟩; refine ⟨_, rfl, ?_⟩) | ((with_reducible refine gate_callee (f := 55) rfl ?_); refine goesL_ (some 15) rfl rfl Try.func55 (by kernel_rfl) rfl #[.int .u64 a0] rfl (by (try simp only [List.map_toArray, List.map_cons, List.map_nil]); first | done | rfl | (simp only [List.length_drop, List.length_take]; rfl)) ?_; (with_reducible refine (citadelref01_neg.calls a0 true _ A7.out).mono ?_); rintro e w' ⟨rfl, ⟨nd, rfl⟩⟩; refine ⟨_, rfl, ?_⟩))
        go_ret
        exact ⟨by first | rfl | (simp; done) | (simp [*]; done), by repeat (first | exact Drawn0.refl _ | apply Drawn0.step)⟩
      · replace c8 := Bool.eq_false_iff.mpr c8
        subst c8
        have H1 : (some (Int.tmod t175 t176)) = some r := by rw [if_neg (show ¬ (false = true) by decide)] at H; exact H
        clear H
        have H := H1
        clear H1
        obtain rfl := Option.some.inj H
        go_enter Try.func31, Try.ntmps31
        go_wp2_with (first | ((with_reducible refine gate_callee (f := 56) rfl ?_); refine goesL_ (some 10) rfl rfl Try.func56 (by kernel_rfl) rfl #[.int .u64 a0] rfl (by (try simp only [List.map_toArray, List.map_cons, List.map_nil]); first | done | rfl | (simp only [List.length_drop, List.length_take]; rfl)) ?_; (with_reducible refine (citadelref01_abs.calls a0 t175 _ A4.out).mono ?_); rintro e w' ⟨rfl, ⟨nd, rfl⟩⟩; refine ⟨_, rfl, ?_⟩) | ((with_reducible refine gate_callee (f := 56) rfl ?_); refine goesL_ (some 12) rfl rfl Try.func56 (by kernel_rfl) rfl #[.int .u64 a1] rfl (by (try simp only [List.map_toArray, List.map_cons, List.map_nil]); first | done | rfl | (simp only [List.length_drop, List.length_take]; rfl)) ?_; (with_reducible refine (citadelref01_abs.calls a1 t176 _ A5.out).mono ?_); rintro e w' ⟨rfl, ⟨nd, rfl⟩⟩; refine ⟨_, rfl, ?_⟩) | ((with_reducible refine gate_callee (f := 55) rfl ?_); refine goesL_ (some 15) rfl rfl Try.func55 (by kernel_rfl) rfl #[.int .u64 a0] rfl (by (try simp only [List.map_toArray, List.map_cons, List.map_nil]); first | done | rfl | (simp only [List.length_drop, List.length_take]; rfl)) ?_; (with_reducible refine (citadelref01_neg.calls a0 false _ A7.out).mono ?_); rintro e w' ⟨rfl, ⟨nd, rfl⟩⟩; refine ⟨_, rfl, ?_⟩))
        go_ret
        exact ⟨by first | rfl | (simp; done) | (simp [*]; done), by repeat (first | exact Drawn0.refl _ | apply Drawn0.step)⟩

/-! ### citadelref01_W: function 32 -/
def citadelref01_W.f (a0 : Int) : Option (Int) := if (Int.tmod a0 4294967296) ≥ 2147483648 then (some (IntKind.u64.wrap ((Int.tmod a0 4294967296) + 18446744069414584320))) else (some (Int.tmod a0 4294967296))
set_option maxHeartbeats 8000000 in
set_option maxRecDepth 100000 in
theorem citadelref01_W.calls (a0 : Int) (r : Int) (w : World) (h : citadelref01_W.f a0 = some r) :
    Calls Try.prog 32 #[.int .u64 a0] w fun e w' => e = .returned (.int .u64 r) ∧ Drawn0 w w' := by
  have H : (if (Int.tmod a0 4294967296) ≥ 2147483648 then (some (IntKind.u64.wrap ((Int.tmod a0 4294967296) + 18446744069414584320))) else (some (Int.tmod a0 4294967296))) = some r := h
  clear h
  by_cases c2 : (Int.tmod a0 4294967296) ≥ 2147483648
  · rw [if_pos c2] at H
    have c2b0 : decide (2147483648 ≤ (Int.tmod a0 4294967296)) = true := decide_eq_true c2
    clear c2
    obtain rfl := Option.some.inj H
    go_enter Try.func32, Try.ntmps32
    go_wp2
    go_ret
    exact ⟨by first | rfl | (simp; done) | (simp [*]; done), by repeat (first | exact Drawn0.refl _ | apply Drawn0.step)⟩
  · rw [if_neg c2] at H
    have c2b0 : decide (2147483648 ≤ (Int.tmod a0 4294967296)) = false := decide_eq_false c2
    clear c2
    obtain rfl := Option.some.inj H
    go_enter Try.func32, Try.ntmps32
    go_wp2
    go_ret
    exact ⟨by first | rfl | (simp; done) | (simp [*]; done), by repeat (first | exact Drawn0.refl _ | apply Drawn0.step)⟩

end Go.Proofs.Ytmfbijfghonnjaa.PA
