/- What the program's functions answer, call by call, and the row of a law; no conditions beyond each theorem's own. Written by a program of this repo (xprint.py, over the kit's printer, with contracts of the session's own). Lean checks it. -/
import Derived.Test.YtmfbijfghonnjaaPAx0
import Derived.Test.YtmfbijfghonnjaaPAx2
import Derived.Test.YtmfbijfghonnjaaPAx4
import Derived.Test.YtmfbijfghonnjaaPAx8
namespace Go.Proofs.Ytmfbijfghonnjaa.PA
open Go.RowKit Go.Proofs.YtmfbijfghonnjaaW.PrintWords Go.Proofs.YtmfbijfghonnjaaW.PrintLast Go.Proofs.YtmfbijfghonnjaaW.PrintMore
attribute [local go_sem] max2_int min2_int max_two min_two max_three min_three max_four min_four   -- for this text's walks alone
set_option linter.unusedVariables false
set_option linter.unusedSimpArgs false

/-! ### citadellaw01_WordOrders: function 13 -/
mutual
def citadellaw01_WordOrders.j0 : Nat → Int → Int → Int → Bool → Option (Bool)
  | 0, _, _, _, _ => none
  | k + 1, x0, x1, x2, x31 => if x31 = true then (some false) else ((word_Alu.f 4 x0 x1).bind fun t305 => ((word_Branch.f 3 x0 x1).bind fun t306 => (if ((t305 == 1) != t306) = true then (citadellaw01_WordOrders.j1 k x0 x1 x2 true) else ((word_Alu.f 5 x0 x1).bind fun t307 => ((word_Branch.f 5 x0 x1).bind fun t308 => (citadellaw01_WordOrders.j1 k x0 x1 x2 ((t307 == 1) != t308)))))))
def citadellaw01_WordOrders.j1 : Nat → Int → Int → Int → Bool → Option (Bool)
  | 0, _, _, _, _ => none
  | k + 1, x0, x1, x2, x49 => if x49 = true then (some false) else ((word_Branch.f 3 x0 x1).bind fun t309 => (if t309 = true then ((word_Branch.f 3 x1 x2).bind fun t310 => (if t310 = true then ((word_Branch.f 3 x0 x2).bind fun t311 => (citadellaw01_WordOrders.j2 k x0 x1 (!t311))) else (citadellaw01_WordOrders.j2 k x0 x1 false))) else (citadellaw01_WordOrders.j2 k x0 x1 false)))
def citadellaw01_WordOrders.j2 : Nat → Int → Int → Bool → Option (Bool)
  | 0, _, _, _ => none
  | k + 1, x0, x1, x63 => if x63 = true then (some false) else ((word_Branch.f 3 x0 x1).bind fun t312 => ((word_Branch.f 5 (Go.bits .xor .u64 x0 9223372036854775808) (Go.bits .xor .u64 x1 9223372036854775808)).bind fun t313 => (if (t312 == t313) = true then ((citadellaw01_awake.f).bind fun t314 => (some t314)) else (some false))))
end
def citadellaw01_WordOrders.f (k : Nat) (a0 : Int) (a1 : Int) (a2 : Int) : Option (Bool) := (word_Branch.f 3 a0 a1).bind fun t299 => ((word_Branch.f 4 a0 a1).bind fun t300 => (if (t299 == t300) = true then (citadellaw01_WordOrders.j0 k a0 a1 a2 true) else ((word_Branch.f 5 a0 a1).bind fun t301 => ((word_Branch.f 6 a0 a1).bind fun t302 => (if (t301 == t302) = true then (citadellaw01_WordOrders.j0 k a0 a1 a2 true) else ((word_Branch.f 1 a0 a1).bind fun t303 => ((word_Branch.f 2 a0 a1).bind fun t304 => (citadellaw01_WordOrders.j0 k a0 a1 a2 (t303 == t304)))))))))
theorem citadellaw01_WordOrders.mono_l : ∀ k, (∀ y0 y1 y2 y3, LeO (citadellaw01_WordOrders.j0 k y0 y1 y2 y3) (citadellaw01_WordOrders.j0 (k + 1) y0 y1 y2 y3)) ∧ (∀ y0 y1 y2 y3, LeO (citadellaw01_WordOrders.j1 k y0 y1 y2 y3) (citadellaw01_WordOrders.j1 (k + 1) y0 y1 y2 y3)) ∧ (∀ y0 y1 y2, LeO (citadellaw01_WordOrders.j2 k y0 y1 y2) (citadellaw01_WordOrders.j2 (k + 1) y0 y1 y2))
  | 0 => ⟨fun _ _ _ _ r h => by simp [citadellaw01_WordOrders.j0] at h, fun _ _ _ _ r h => by simp [citadellaw01_WordOrders.j1] at h, fun _ _ _ r h => by simp [citadellaw01_WordOrders.j2] at h⟩
  | k + 1 => by
    obtain ⟨ih0, ih1, ih2⟩ := citadellaw01_WordOrders.mono_l k
    refine ⟨?_, ?_, ?_⟩
    · intro y0 y1 y2 y3
      unfold citadellaw01_WordOrders.j0
      repeat' first
      | (with_reducible exact ih0 _ _ _ _)
      | (with_reducible exact ih1 _ _ _ _)
      | (with_reducible exact ih2 _ _ _)
      | (with_reducible exact LeO.refl _)
      | (with_reducible exact LeO.none _)
      | (with_reducible refine LeO.ite ?_ ?_)
      | (with_reducible refine LeO.bind ?_ (fun _ => ?_))
      | exact ih0 _ _ _ _
      | exact ih1 _ _ _ _
      | exact ih2 _ _ _
      | exact LeO.none _
      | refine LeO.ite ?_ ?_
      | refine LeO.bind ?_ (fun _ => ?_)
    · intro y0 y1 y2 y3
      unfold citadellaw01_WordOrders.j1
      repeat' first
      | (with_reducible exact ih0 _ _ _ _)
      | (with_reducible exact ih1 _ _ _ _)
      | (with_reducible exact ih2 _ _ _)
      | (with_reducible exact LeO.refl _)
      | (with_reducible exact LeO.none _)
      | (with_reducible refine LeO.ite ?_ ?_)
      | (with_reducible refine LeO.bind ?_ (fun _ => ?_))
      | exact ih0 _ _ _ _
      | exact ih1 _ _ _ _
      | exact ih2 _ _ _
      | exact LeO.none _
      | refine LeO.ite ?_ ?_
      | refine LeO.bind ?_ (fun _ => ?_)
    · intro y0 y1 y2
      unfold citadellaw01_WordOrders.j2
      repeat' first
      | (with_reducible exact ih0 _ _ _ _)
      | (with_reducible exact ih1 _ _ _ _)
      | (with_reducible exact ih2 _ _ _)
      | (with_reducible exact LeO.refl _)
      | (with_reducible exact LeO.none _)
      | (with_reducible refine LeO.ite ?_ ?_)
      | (with_reducible refine LeO.bind ?_ (fun _ => ?_))
      | exact ih0 _ _ _ _
      | exact ih1 _ _ _ _
      | exact ih2 _ _ _
      | exact LeO.none _
      | refine LeO.ite ?_ ?_
      | refine LeO.bind ?_ (fun _ => ?_)
theorem citadellaw01_WordOrders.mono : ∀ a0 a1 a2 k, LeO (citadellaw01_WordOrders.f k a0 a1 a2) (citadellaw01_WordOrders.f (k + 1) a0 a1 a2) := by
  intro a0 a1 a2 k
  obtain ⟨ih0, ih1, ih2⟩ := citadellaw01_WordOrders.mono_l k
  unfold citadellaw01_WordOrders.f
  repeat' first
      | (with_reducible exact ih0 _ _ _ _)
      | (with_reducible exact ih1 _ _ _ _)
      | (with_reducible exact ih2 _ _ _)
      | (with_reducible exact LeO.refl _)
      | (with_reducible exact LeO.none _)
      | (with_reducible refine LeO.ite ?_ ?_)
      | (with_reducible refine LeO.bind ?_ (fun _ => ?_))
      | exact ih0 _ _ _ _
      | exact ih1 _ _ _ _
      | exact ih2 _ _ _
      | exact LeO.none _
      | refine LeO.ite ?_ ?_
      | refine LeO.bind ?_ (fun _ => ?_)
set_option maxHeartbeats 8000000 in
set_option maxRecDepth 100000 in
theorem citadellaw01_WordOrders.calls (k : Nat) (a0 : Int) (a1 : Int) (a2 : Int) (r : Bool) (w : World) (h : citadellaw01_WordOrders.f k a0 a1 a2 = some r) :
    Calls Try.prog 13 #[.int .u64 a0, .int .u64 a1, .int .u64 a2] w fun e w' => e = .returned (.bool r) ∧ Below w.heap.size w w' := by
  have HB := Aside0.mk (Below.refl w.heap.size w)
  have H : ((word_Branch.f 3 a0 a1).bind fun t299 => ((word_Branch.f 4 a0 a1).bind fun t300 => (if (t299 == t300) = true then (citadellaw01_WordOrders.j0 k a0 a1 a2 true) else ((word_Branch.f 5 a0 a1).bind fun t301 => ((word_Branch.f 6 a0 a1).bind fun t302 => (if (t301 == t302) = true then (citadellaw01_WordOrders.j0 k a0 a1 a2 true) else ((word_Branch.f 1 a0 a1).bind fun t303 => ((word_Branch.f 2 a0 a1).bind fun t304 => (citadellaw01_WordOrders.j0 k a0 a1 a2 (t303 == t304)))))))))) = some r := h
  clear h
  have HC4 := Aside0.mk H
  clear H
  go_enter Try.func13, Try.ntmps13
  go_upto_region 1 with (fail)
  go_cut [31] (fun v31 wc => ∃ (kq : Nat) (x31_3 : Bool), v31 = .bool x31_3 ∧ Aside0 (citadellaw01_WordOrders.j0 kq a0 a1 a2 x31_3 = some r) ∧ Aside0 (kq ≤ k) ∧ Aside0 (Below w.heap.size w wc))
  case first =>
    have H := HC4.out
    clear HC4
    replace H := Option.bind_eq_some_iff.mp H
    obtain ⟨t299, A50, H⟩ := H
    replace H : ((word_Branch.f 4 a0 a1).bind fun t300 => (if (t299 == t300) = true then (citadellaw01_WordOrders.j0 k a0 a1 a2 true) else ((word_Branch.f 5 a0 a1).bind fun t301 => ((word_Branch.f 6 a0 a1).bind fun t302 => (if (t301 == t302) = true then (citadellaw01_WordOrders.j0 k a0 a1 a2 true) else ((word_Branch.f 1 a0 a1).bind fun t303 => ((word_Branch.f 2 a0 a1).bind fun t304 => (citadellaw01_WordOrders.j0 k a0 a1 a2 (t303 == t304))))))))) = some r := H
    have A5 := Aside0.mk A50
    clear A50
    replace H := Option.bind_eq_some_iff.mp H
    obtain ⟨t300, A60, H⟩ := H
    replace H : (if (t299 == t300) = true then (citadellaw01_WordOrders.j0 k a0 a1 a2 true) else ((word_Branch.f 5 a0 a1).bind fun t301 => ((word_Branch.f 6 a0 a1).bind fun t302 => (if (t301 == t302) = true then (citadellaw01_WordOrders.j0 k a0 a1 a2 true) else ((word_Branch.f 1 a0 a1).bind fun t303 => ((word_Branch.f 2 a0 a1).bind fun t304 => (citadellaw01_WordOrders.j0 k a0 a1 a2 (t303 == t304)))))))) = some r := H
    have A6 := Aside0.mk A60
    clear A60
    by_cases c7 : (t299 == t300) = true
    · rw [if_pos c7] at H
      have c7b0 : (t299 == t300) = true := c7
      (try (have c7b1 : decide (t299 = t300) = true := by simpa using c7))
      (try (have c7b2 : (t299 == t300) = true := by simpa using c7))
      clear c7
      (first | rw [c7b0] | (simp only [i64_w, i32_w]; rw [c7b0]) | skip)
      have H' := Aside0.mk H
      clear H
      go_wp2_with (first | ((with_reducible refine gate_callee (f := 22) rfl ?_); refine goesL_ (some 9) rfl rfl Try.func22 (by kernel_rfl) rfl #[.int .i64 3, .int .u64 a0, .int .u64 a1] rfl (by (try simp only [List.map_toArray, List.map_cons, List.map_nil]); first | done | rfl | (simp only [List.length_drop, List.length_take]; rfl)) ?_; (with_reducible refine (word_Branch.calls 3 a0 a1 t299 _ A5.out).mono ?_); rintro e w' ⟨rfl, ⟨nd, rfl⟩⟩; refine ⟨_, rfl, ?_⟩) | ((with_reducible refine gate_callee (f := 22) rfl ?_); refine goesL_ (some 12) rfl rfl Try.func22 (by kernel_rfl) rfl #[.int .i64 4, .int .u64 a0, .int .u64 a1] rfl (by (try simp only [List.map_toArray, List.map_cons, List.map_nil]); first | done | rfl | (simp only [List.length_drop, List.length_take]; rfl)) ?_; (with_reducible refine (word_Branch.calls 4 a0 a1 t300 _ A6.out).mono ?_); rintro e w' ⟨rfl, ⟨nd, rfl⟩⟩; refine ⟨_, rfl, ?_⟩))
      go_meet
      case rel => exact ⟨_, (true), (by first | rfl | (simp; done) | (simp [*]; done)), H', ⟨by first | omega | exact Nat.le_refl _⟩, ⟨by repeat (first | (with_reducible first | exact HB.out | apply below_alloc | apply pw_below_drewN | apply below_drew1) | exact HB.out)⟩⟩
    · rw [if_neg c7] at H
      have c7b0 : (t299 == t300) = false := by simpa using c7
      (try (have c7b1 : decide (t299 = t300) = false := by simpa using c7))
      (try (have c7b2 : (t299 == t300) = false := by simpa using c7))
      (try (have c7b3 : ¬ (t299 = t300) := by simpa using c7))
      clear c7
      (first | rw [c7b0] | (simp only [i64_w, i32_w]; rw [c7b0]) | skip)
      replace H := Option.bind_eq_some_iff.mp H
      obtain ⟨t301, A80, H⟩ := H
      replace H : ((word_Branch.f 6 a0 a1).bind fun t302 => (if (t301 == t302) = true then (citadellaw01_WordOrders.j0 k a0 a1 a2 true) else ((word_Branch.f 1 a0 a1).bind fun t303 => ((word_Branch.f 2 a0 a1).bind fun t304 => (citadellaw01_WordOrders.j0 k a0 a1 a2 (t303 == t304)))))) = some r := H
      have A8 := Aside0.mk A80
      clear A80
      replace H := Option.bind_eq_some_iff.mp H
      obtain ⟨t302, A90, H⟩ := H
      replace H : (if (t301 == t302) = true then (citadellaw01_WordOrders.j0 k a0 a1 a2 true) else ((word_Branch.f 1 a0 a1).bind fun t303 => ((word_Branch.f 2 a0 a1).bind fun t304 => (citadellaw01_WordOrders.j0 k a0 a1 a2 (t303 == t304))))) = some r := H
      have A9 := Aside0.mk A90
      clear A90
      by_cases c10 : (t301 == t302) = true
      · rw [if_pos c10] at H
        have c10b0 : (t301 == t302) = true := c10
        (try (have c10b1 : decide (t301 = t302) = true := by simpa using c10))
        (try (have c10b2 : (t301 == t302) = true := by simpa using c10))
        clear c10
        have H' := Aside0.mk H
        clear H
        go_wp2_with (first | ((with_reducible refine gate_callee (f := 22) rfl ?_); refine goesL_ (some 9) rfl rfl Try.func22 (by kernel_rfl) rfl #[.int .i64 3, .int .u64 a0, .int .u64 a1] rfl (by (try simp only [List.map_toArray, List.map_cons, List.map_nil]); first | done | rfl | (simp only [List.length_drop, List.length_take]; rfl)) ?_; (with_reducible refine (word_Branch.calls 3 a0 a1 t299 _ A5.out).mono ?_); rintro e w' ⟨rfl, ⟨nd, rfl⟩⟩; refine ⟨_, rfl, ?_⟩) | ((with_reducible refine gate_callee (f := 22) rfl ?_); refine goesL_ (some 12) rfl rfl Try.func22 (by kernel_rfl) rfl #[.int .i64 4, .int .u64 a0, .int .u64 a1] rfl (by (try simp only [List.map_toArray, List.map_cons, List.map_nil]); first | done | rfl | (simp only [List.length_drop, List.length_take]; rfl)) ?_; (with_reducible refine (word_Branch.calls 4 a0 a1 t300 _ A6.out).mono ?_); rintro e w' ⟨rfl, ⟨nd, rfl⟩⟩; refine ⟨_, rfl, ?_⟩) | (go_at_call 22; (with_reducible refine (word_Branch.calls 5 a0 a1 t301 _ A8.out).mono ?_); rintro e w' ⟨rfl, ⟨nd, rfl⟩⟩) | (go_at_call 22; (with_reducible refine (word_Branch.calls 6 a0 a1 t302 _ A9.out).mono ?_); rintro e w' ⟨rfl, ⟨nd, rfl⟩⟩))
        go_meet
        case rel => exact ⟨_, (true), (by first | rfl | (simp; done) | (simp [*]; done)), H', ⟨by first | omega | exact Nat.le_refl _⟩, ⟨by repeat (first | (with_reducible first | exact HB.out | apply below_alloc | apply pw_below_drewN | apply below_drew1) | exact HB.out)⟩⟩
      · rw [if_neg c10] at H
        have c10b0 : (t301 == t302) = false := by simpa using c10
        (try (have c10b1 : decide (t301 = t302) = false := by simpa using c10))
        (try (have c10b2 : (t301 == t302) = false := by simpa using c10))
        (try (have c10b3 : ¬ (t301 = t302) := by simpa using c10))
        clear c10
        replace H := Option.bind_eq_some_iff.mp H
        obtain ⟨t303, A110, H⟩ := H
        replace H : ((word_Branch.f 2 a0 a1).bind fun t304 => (citadellaw01_WordOrders.j0 k a0 a1 a2 (t303 == t304))) = some r := H
        have A11 := Aside0.mk A110
        clear A110
        replace H := Option.bind_eq_some_iff.mp H
        obtain ⟨t304, A120, H⟩ := H
        replace H : (citadellaw01_WordOrders.j0 k a0 a1 a2 (t303 == t304)) = some r := H
        have A12 := Aside0.mk A120
        clear A120
        have H' := Aside0.mk H
        clear H
        go_wp2_with (first | ((with_reducible refine gate_callee (f := 22) rfl ?_); refine goesL_ (some 9) rfl rfl Try.func22 (by kernel_rfl) rfl #[.int .i64 3, .int .u64 a0, .int .u64 a1] rfl (by (try simp only [List.map_toArray, List.map_cons, List.map_nil]); first | done | rfl | (simp only [List.length_drop, List.length_take]; rfl)) ?_; (with_reducible refine (word_Branch.calls 3 a0 a1 t299 _ A5.out).mono ?_); rintro e w' ⟨rfl, ⟨nd, rfl⟩⟩; refine ⟨_, rfl, ?_⟩) | ((with_reducible refine gate_callee (f := 22) rfl ?_); refine goesL_ (some 12) rfl rfl Try.func22 (by kernel_rfl) rfl #[.int .i64 4, .int .u64 a0, .int .u64 a1] rfl (by (try simp only [List.map_toArray, List.map_cons, List.map_nil]); first | done | rfl | (simp only [List.length_drop, List.length_take]; rfl)) ?_; (with_reducible refine (word_Branch.calls 4 a0 a1 t300 _ A6.out).mono ?_); rintro e w' ⟨rfl, ⟨nd, rfl⟩⟩; refine ⟨_, rfl, ?_⟩) | (go_at_call 22; (with_reducible refine (word_Branch.calls 5 a0 a1 t301 _ A8.out).mono ?_); rintro e w' ⟨rfl, ⟨nd, rfl⟩⟩) | (go_at_call 22; (with_reducible refine (word_Branch.calls 6 a0 a1 t302 _ A9.out).mono ?_); rintro e w' ⟨rfl, ⟨nd, rfl⟩⟩) | (go_at_call 22; (with_reducible refine (word_Branch.calls 1 a0 a1 t303 _ A11.out).mono ?_); rintro e w' ⟨rfl, ⟨nd, rfl⟩⟩) | (go_at_call 22; (with_reducible refine (word_Branch.calls 2 a0 a1 t304 _ A12.out).mono ?_); rintro e w' ⟨rfl, ⟨nd, rfl⟩⟩))
        go_meet
        case rel => exact ⟨_, ((t303 == t304)), (by first | rfl | (simp; done) | (simp [*]; done)), H', ⟨by first | omega | exact Nat.le_refl _⟩, ⟨by repeat (first | (with_reducible first | exact HB.out | apply below_alloc | apply pw_below_drewN | apply below_drew1) | exact HB.out)⟩⟩
  case rest =>
    clear HC4
    try clear c1
    try clear c2
    try clear p2
    try clear c7
    try clear c7b0
    try clear c7b1
    try clear c7b2
    try clear c10
    try clear c10b0
    try clear c10b1
    try clear c10b2
    obtain ⟨kq, x31_3, rfl, HA, HJ3, HB⟩ := hcut
    cases kq with
    | zero => exact absurd HA.out (by simp [citadellaw01_WordOrders.j0])
    | succ kj3 =>
      have H := HA.out
      clear HA
      simp only [citadellaw01_WordOrders.j0] at H
      by_cases c13 : x31_3 = true
      · subst c13
        have H1 : (some false) = some r := by rw [if_pos rfl] at H; exact H
        clear H
        have H := H1
        clear H1
        obtain rfl := Option.some.inj H
        go_wp2
        go_ret
        exact ⟨by first | rfl | (simp [errW_none, errW_some] <;> rfl) | (simp [*, errW_none, errW_some] <;> rfl), by repeat (first | (with_reducible first | exact HB.out | apply below_alloc | apply pw_below_drewN | apply below_drew1) | exact HB.out)⟩
      · replace c13 := Bool.eq_false_iff.mpr c13
        subst c13
        have H1 : ((word_Alu.f 4 a0 a1).bind fun t305 => ((word_Branch.f 3 a0 a1).bind fun t306 => (if ((t305 == 1) != t306) = true then (citadellaw01_WordOrders.j1 kj3 a0 a1 a2 true) else ((word_Alu.f 5 a0 a1).bind fun t307 => ((word_Branch.f 5 a0 a1).bind fun t308 => (citadellaw01_WordOrders.j1 kj3 a0 a1 a2 ((t307 == 1) != t308))))))) = some r := by rw [if_neg (show ¬ (false = true) by decide)] at H; exact H
        clear H
        have H := H1
        clear H1
        have HC14 := Aside0.mk H
        clear H
        go_upto_region 3 with (fail)
        go_cut [49] (fun v49 wc => ∃ (kq : Nat) (x49_13 : Bool), v49 = .bool x49_13 ∧ Aside0 (citadellaw01_WordOrders.j1 kq a0 a1 a2 x49_13 = some r) ∧ Aside0 (kq ≤ kj3) ∧ Aside0 (Below w.heap.size w wc))
        case first =>
          have H := HC14.out
          clear HC14
          replace H := Option.bind_eq_some_iff.mp H
          obtain ⟨t305, A150, H⟩ := H
          replace H : ((word_Branch.f 3 a0 a1).bind fun t306 => (if ((t305 == 1) != t306) = true then (citadellaw01_WordOrders.j1 kj3 a0 a1 a2 true) else ((word_Alu.f 5 a0 a1).bind fun t307 => ((word_Branch.f 5 a0 a1).bind fun t308 => (citadellaw01_WordOrders.j1 kj3 a0 a1 a2 ((t307 == 1) != t308)))))) = some r := H
          have A15 := Aside0.mk A150
          clear A150
          replace H := Option.bind_eq_some_iff.mp H
          obtain ⟨t306, A160, H⟩ := H
          replace H : (if ((t305 == 1) != t306) = true then (citadellaw01_WordOrders.j1 kj3 a0 a1 a2 true) else ((word_Alu.f 5 a0 a1).bind fun t307 => ((word_Branch.f 5 a0 a1).bind fun t308 => (citadellaw01_WordOrders.j1 kj3 a0 a1 a2 ((t307 == 1) != t308))))) = some r := H
          have A16 := Aside0.mk A160
          clear A160
          by_cases c17 : ((t305 == 1) != t306) = true
          · rw [if_pos c17] at H
            have c17b0 : ((t305 == 1) != t306) = true := c17
            (try (have c17b1 : decide ((t305 == 1) = t306) = false := by simpa using c17))
            (try (have c17b2 : ((t305 == 1) == t306) = false := by simpa using c17))
            (try (have c17b3 : ¬ ((t305 == 1) = t306) := by simpa using c17))
            clear c17
            (first | rw [c17b0] | (simp only [i64_w, i32_w]; rw [c17b0]) | skip)
            have H' := Aside0.mk H
            clear H
            go_wp2_with (first | ((with_reducible refine gate_callee (f := 15) rfl ?_); refine goesL_ (some 34) rfl rfl Try.func15 (by kernel_rfl) rfl #[.int .i64 4, .int .u64 a0, .int .u64 a1] rfl (by (try simp only [List.map_toArray, List.map_cons, List.map_nil]); first | done | rfl | (simp only [List.length_drop, List.length_take]; rfl)) ?_; (with_reducible refine (word_Alu.calls 4 a0 a1 t305 _ A15.out).mono ?_); rintro e w18 ⟨rfl, hb⟩; refine ⟨_, rfl, ?_⟩; have n0_ := Aside0.mk (below_step (by repeat (first | (with_reducible first | exact HB.out | apply below_alloc | apply pw_below_drewN | apply below_drew1) | exact HB.out)) hb); clear HB; have HB := n0_; clear n0_; (try clear hb); (try clear hb2); (try clear hk); (try clear hi)) | ((with_reducible refine gate_callee (f := 22) rfl ?_); refine goesL_ (some 38) rfl rfl Try.func22 (by kernel_rfl) rfl #[.int .i64 3, .int .u64 a0, .int .u64 a1] rfl (by (try simp only [List.map_toArray, List.map_cons, List.map_nil]); first | done | rfl | (simp only [List.length_drop, List.length_take]; rfl)) ?_; (with_reducible refine (word_Branch.calls 3 a0 a1 t306 _ A16.out).mono ?_); rintro e w' ⟨rfl, ⟨nd, rfl⟩⟩; refine ⟨_, rfl, ?_⟩))
            go_meet
            case rel => exact ⟨_, (true), (by first | rfl | (simp; done) | (simp [*]; done)), H', ⟨by have := HJ3.out; first | omega | exact Nat.le_refl _⟩, ⟨by repeat (first | (with_reducible first | exact HB.out | apply below_alloc | apply pw_below_drewN | apply below_drew1) | exact HB.out)⟩⟩
          · rw [if_neg c17] at H
            have c17b0 : ((t305 == 1) != t306) = false := by simpa using c17
            (try (have c17b1 : decide ((t305 == 1) = t306) = true := by simpa using c17))
            (try (have c17b2 : ((t305 == 1) == t306) = true := by simpa using c17))
            clear c17
            (first | rw [c17b0] | (simp only [i64_w, i32_w]; rw [c17b0]) | skip)
            replace H := Option.bind_eq_some_iff.mp H
            obtain ⟨t307, A190, H⟩ := H
            replace H : ((word_Branch.f 5 a0 a1).bind fun t308 => (citadellaw01_WordOrders.j1 kj3 a0 a1 a2 ((t307 == 1) != t308))) = some r := H
            have A19 := Aside0.mk A190
            clear A190
            replace H := Option.bind_eq_some_iff.mp H
            obtain ⟨t308, A200, H⟩ := H
            replace H : (citadellaw01_WordOrders.j1 kj3 a0 a1 a2 ((t307 == 1) != t308)) = some r := H
            have A20 := Aside0.mk A200
            clear A200
            have H' := Aside0.mk H
            clear H
            go_wp2_with (first | ((with_reducible refine gate_callee (f := 15) rfl ?_); refine goesL_ (some 34) rfl rfl Try.func15 (by kernel_rfl) rfl #[.int .i64 4, .int .u64 a0, .int .u64 a1] rfl (by (try simp only [List.map_toArray, List.map_cons, List.map_nil]); first | done | rfl | (simp only [List.length_drop, List.length_take]; rfl)) ?_; (with_reducible refine (word_Alu.calls 4 a0 a1 t305 _ A15.out).mono ?_); rintro e w21 ⟨rfl, hb⟩; refine ⟨_, rfl, ?_⟩; have n0_ := Aside0.mk (below_step (by repeat (first | (with_reducible first | exact HB.out | apply below_alloc | apply pw_below_drewN | apply below_drew1) | exact HB.out)) hb); clear HB; have HB := n0_; clear n0_; (try clear hb); (try clear hb2); (try clear hk); (try clear hi)) | ((with_reducible refine gate_callee (f := 22) rfl ?_); refine goesL_ (some 38) rfl rfl Try.func22 (by kernel_rfl) rfl #[.int .i64 3, .int .u64 a0, .int .u64 a1] rfl (by (try simp only [List.map_toArray, List.map_cons, List.map_nil]); first | done | rfl | (simp only [List.length_drop, List.length_take]; rfl)) ?_; (with_reducible refine (word_Branch.calls 3 a0 a1 t306 _ A16.out).mono ?_); rintro e w' ⟨rfl, ⟨nd, rfl⟩⟩; refine ⟨_, rfl, ?_⟩) | (go_at_call 15; (with_reducible refine (word_Alu.calls 5 a0 a1 t307 _ A19.out).mono ?_); rintro e w22 ⟨rfl, hb⟩; have n0_ := Aside0.mk (below_step (by repeat (first | (with_reducible first | exact HB.out | apply below_alloc | apply pw_below_drewN | apply below_drew1) | exact HB.out)) hb); clear HB; have HB := n0_; clear n0_; (try clear hb); (try clear hb2); (try clear hk); (try clear hi)) | (go_at_call 22; (with_reducible refine (word_Branch.calls 5 a0 a1 t308 _ A20.out).mono ?_); rintro e w' ⟨rfl, ⟨nd, rfl⟩⟩))
            go_meet
            case rel => exact ⟨_, (((t307 == 1) != t308)), (by first | rfl | (simp; done) | (simp [*]; done)), H', ⟨by have := HJ3.out; first | omega | exact Nat.le_refl _⟩, ⟨by repeat (first | (with_reducible first | exact HB.out | apply below_alloc | apply pw_below_drewN | apply below_drew1) | exact HB.out)⟩⟩
        case rest =>
          clear HC14
          try clear c1
          try clear c2
          try clear p2
          try clear c7
          try clear c7b0
          try clear c7b1
          try clear c7b2
          try clear c10
          try clear c10b0
          try clear c10b1
          try clear c10b2
          try clear c13
          try clear c15
          try clear c17
          try clear c17b0
          try clear c17b1
          try clear c17b2
          try clear c22
          try clear p2
          obtain ⟨kq, x49_13, rfl, HA, HJ13, HB⟩ := hcut
          cases kq with
          | zero => exact absurd HA.out (by simp [citadellaw01_WordOrders.j1])
          | succ kj13 =>
            have H := HA.out
            clear HA
            simp only [citadellaw01_WordOrders.j1] at H
            by_cases c23 : x49_13 = true
            · subst c23
              have H1 : (some false) = some r := by rw [if_pos rfl] at H; exact H
              clear H
              have H := H1
              clear H1
              obtain rfl := Option.some.inj H
              go_wp2
              go_ret
              exact ⟨by first | rfl | (simp [errW_none, errW_some] <;> rfl) | (simp [*, errW_none, errW_some] <;> rfl), by repeat (first | (with_reducible first | exact HB.out | apply below_alloc | apply pw_below_drewN | apply below_drew1) | exact HB.out)⟩
            · replace c23 := Bool.eq_false_iff.mpr c23
              subst c23
              have H1 : ((word_Branch.f 3 a0 a1).bind fun t309 => (if t309 = true then ((word_Branch.f 3 a1 a2).bind fun t310 => (if t310 = true then ((word_Branch.f 3 a0 a2).bind fun t311 => (citadellaw01_WordOrders.j2 kj13 a0 a1 (!t311))) else (citadellaw01_WordOrders.j2 kj13 a0 a1 false))) else (citadellaw01_WordOrders.j2 kj13 a0 a1 false))) = some r := by rw [if_neg (show ¬ (false = true) by decide)] at H; exact H
              clear H
              have H := H1
              clear H1
              have HC24 := Aside0.mk H
              clear H
              go_upto_region 5 with (fail)
              go_cut [63] (fun v63 wc => ∃ (kq : Nat) (x63_23 : Bool), v63 = .bool x63_23 ∧ Aside0 (citadellaw01_WordOrders.j2 kq a0 a1 x63_23 = some r) ∧ Aside0 (kq ≤ kj13) ∧ Aside0 (Below w.heap.size w wc))
              case first =>
                have H := HC24.out
                clear HC24
                replace H := Option.bind_eq_some_iff.mp H
                obtain ⟨t309, A250, H⟩ := H
                replace H : (if t309 = true then ((word_Branch.f 3 a1 a2).bind fun t310 => (if t310 = true then ((word_Branch.f 3 a0 a2).bind fun t311 => (citadellaw01_WordOrders.j2 kj13 a0 a1 (!t311))) else (citadellaw01_WordOrders.j2 kj13 a0 a1 false))) else (citadellaw01_WordOrders.j2 kj13 a0 a1 false)) = some r := H
                have A25 := Aside0.mk A250
                clear A250
                by_cases c26 : t309 = true
                · subst c26
                  have H1 : ((word_Branch.f 3 a1 a2).bind fun t310 => (if t310 = true then ((word_Branch.f 3 a0 a2).bind fun t311 => (citadellaw01_WordOrders.j2 kj13 a0 a1 (!t311))) else (citadellaw01_WordOrders.j2 kj13 a0 a1 false))) = some r := by rw [if_pos rfl] at H; exact H
                  clear H
                  have H := H1
                  clear H1
                  replace H := Option.bind_eq_some_iff.mp H
                  obtain ⟨t310, A270, H⟩ := H
                  replace H : (if t310 = true then ((word_Branch.f 3 a0 a2).bind fun t311 => (citadellaw01_WordOrders.j2 kj13 a0 a1 (!t311))) else (citadellaw01_WordOrders.j2 kj13 a0 a1 false)) = some r := H
                  have A27 := Aside0.mk A270
                  clear A270
                  by_cases c28 : t310 = true
                  · subst c28
                    have H1 : ((word_Branch.f 3 a0 a2).bind fun t311 => (citadellaw01_WordOrders.j2 kj13 a0 a1 (!t311))) = some r := by rw [if_pos rfl] at H; exact H
                    clear H
                    have H := H1
                    clear H1
                    replace H := Option.bind_eq_some_iff.mp H
                    obtain ⟨t311, A290, H⟩ := H
                    replace H : (citadellaw01_WordOrders.j2 kj13 a0 a1 (!t311)) = some r := H
                    have A29 := Aside0.mk A290
                    clear A290
                    have H' := Aside0.mk H
                    clear H
                    go_wp2_with (first | ((with_reducible refine gate_callee (f := 22) rfl ?_); refine goesL_ (some 52) rfl rfl Try.func22 (by kernel_rfl) rfl #[.int .i64 3, .int .u64 a0, .int .u64 a1] rfl (by (try simp only [List.map_toArray, List.map_cons, List.map_nil]); first | done | rfl | (simp only [List.length_drop, List.length_take]; rfl)) ?_; (with_reducible refine (word_Branch.calls 3 a0 a1 true _ A25.out).mono ?_); rintro e w' ⟨rfl, ⟨nd, rfl⟩⟩; refine ⟨_, rfl, ?_⟩) | (go_at_call 22; (with_reducible refine (word_Branch.calls 3 a1 a2 true _ A27.out).mono ?_); rintro e w' ⟨rfl, ⟨nd, rfl⟩⟩) | (go_at_call 22; (with_reducible refine (word_Branch.calls 3 a0 a2 t311 _ A29.out).mono ?_); rintro e w' ⟨rfl, ⟨nd, rfl⟩⟩))
                    go_meet
                    case rel => exact ⟨_, (!t311), (by first | rfl | (simp; done) | (simp [*]; done)), H', ⟨by have := HJ3.out; have := HJ13.out; first | omega | exact Nat.le_refl _⟩, ⟨by repeat (first | (with_reducible first | exact HB.out | apply below_alloc | apply pw_below_drewN | apply below_drew1) | exact HB.out)⟩⟩
                  · replace c28 := Bool.eq_false_iff.mpr c28
                    subst c28
                    have H1 : (citadellaw01_WordOrders.j2 kj13 a0 a1 false) = some r := by rw [if_neg (show ¬ (false = true) by decide)] at H; exact H
                    clear H
                    have H := H1
                    clear H1
                    have H' := Aside0.mk H
                    clear H
                    go_wp2_with (first | ((with_reducible refine gate_callee (f := 22) rfl ?_); refine goesL_ (some 52) rfl rfl Try.func22 (by kernel_rfl) rfl #[.int .i64 3, .int .u64 a0, .int .u64 a1] rfl (by (try simp only [List.map_toArray, List.map_cons, List.map_nil]); first | done | rfl | (simp only [List.length_drop, List.length_take]; rfl)) ?_; (with_reducible refine (word_Branch.calls 3 a0 a1 true _ A25.out).mono ?_); rintro e w' ⟨rfl, ⟨nd, rfl⟩⟩; refine ⟨_, rfl, ?_⟩) | (go_at_call 22; (with_reducible refine (word_Branch.calls 3 a1 a2 false _ A27.out).mono ?_); rintro e w' ⟨rfl, ⟨nd, rfl⟩⟩))
                    go_meet
                    case rel => exact ⟨_, (false), (by first | rfl | (simp; done) | (simp [*]; done)), H', ⟨by have := HJ3.out; have := HJ13.out; first | omega | exact Nat.le_refl _⟩, ⟨by repeat (first | (with_reducible first | exact HB.out | apply below_alloc | apply pw_below_drewN | apply below_drew1) | exact HB.out)⟩⟩
                · replace c26 := Bool.eq_false_iff.mpr c26
                  subst c26
                  have H1 : (citadellaw01_WordOrders.j2 kj13 a0 a1 false) = some r := by rw [if_neg (show ¬ (false = true) by decide)] at H; exact H
                  clear H
                  have H := H1
                  clear H1
                  have H' := Aside0.mk H
                  clear H
                  go_wp2_with (first | ((with_reducible refine gate_callee (f := 22) rfl ?_); refine goesL_ (some 52) rfl rfl Try.func22 (by kernel_rfl) rfl #[.int .i64 3, .int .u64 a0, .int .u64 a1] rfl (by (try simp only [List.map_toArray, List.map_cons, List.map_nil]); first | done | rfl | (simp only [List.length_drop, List.length_take]; rfl)) ?_; (with_reducible refine (word_Branch.calls 3 a0 a1 false _ A25.out).mono ?_); rintro e w' ⟨rfl, ⟨nd, rfl⟩⟩; refine ⟨_, rfl, ?_⟩))
                  go_meet
                  case rel => exact ⟨_, (false), (by first | rfl | (simp; done) | (simp [*]; done)), H', ⟨by have := HJ3.out; have := HJ13.out; first | omega | exact Nat.le_refl _⟩, ⟨by repeat (first | (with_reducible first | exact HB.out | apply below_alloc | apply pw_below_drewN | apply below_drew1) | exact HB.out)⟩⟩
              case rest =>
                clear HC24
                try clear c1
                try clear c2
                try clear p2
                try clear c7
                try clear c7b0
                try clear c7b1
                try clear c7b2
                try clear c10
                try clear c10b0
                try clear c10b1
                try clear c10b2
                try clear c13
                try clear c15
                try clear c17
                try clear c17b0
                try clear c17b1
                try clear c17b2
                try clear c22
                try clear c23
                try clear c26
                try clear c28
                try clear p2
                obtain ⟨kq, x63_23, rfl, HA, HJ23, HB⟩ := hcut
                cases kq with
                | zero => exact absurd HA.out (by simp [citadellaw01_WordOrders.j2])
                | succ kj23 =>
                  have H := HA.out
                  clear HA
                  simp only [citadellaw01_WordOrders.j2] at H
                  by_cases c30 : x63_23 = true
                  · subst c30
                    have H1 : (some false) = some r := by rw [if_pos rfl] at H; exact H
                    clear H
                    have H := H1
                    clear H1
                    obtain rfl := Option.some.inj H
                    go_wp2
                    go_ret
                    exact ⟨by first | rfl | (simp [errW_none, errW_some] <;> rfl) | (simp [*, errW_none, errW_some] <;> rfl), by repeat (first | (with_reducible first | exact HB.out | apply below_alloc | apply pw_below_drewN | apply below_drew1) | exact HB.out)⟩
                  · replace c30 := Bool.eq_false_iff.mpr c30
                    subst c30
                    have H1 : ((word_Branch.f 3 a0 a1).bind fun t312 => ((word_Branch.f 5 (Go.bits .xor .u64 a0 9223372036854775808) (Go.bits .xor .u64 a1 9223372036854775808)).bind fun t313 => (if (t312 == t313) = true then ((citadellaw01_awake.f).bind fun t314 => (some t314)) else (some false)))) = some r := by rw [if_neg (show ¬ (false = true) by decide)] at H; exact H
                    clear H
                    have H := H1
                    clear H1
                    replace H := Option.bind_eq_some_iff.mp H
                    obtain ⟨t312, A310, H⟩ := H
                    replace H : ((word_Branch.f 5 (Go.bits .xor .u64 a0 9223372036854775808) (Go.bits .xor .u64 a1 9223372036854775808)).bind fun t313 => (if (t312 == t313) = true then ((citadellaw01_awake.f).bind fun t314 => (some t314)) else (some false))) = some r := H
                    have A31 := Aside0.mk A310
                    clear A310
                    replace H := Option.bind_eq_some_iff.mp H
                    obtain ⟨t313, A320, H⟩ := H
                    replace H : (if (t312 == t313) = true then ((citadellaw01_awake.f).bind fun t314 => (some t314)) else (some false)) = some r := H
                    have A32 := Aside0.mk A320
                    clear A320
                    by_cases c33 : (t312 == t313) = true
                    · rw [if_pos c33] at H
                      have c33b0 : (t312 == t313) = true := c33
                      (try (have c33b1 : decide (t312 = t313) = true := by simpa using c33))
                      (try (have c33b2 : (t312 == t313) = true := by simpa using c33))
                      clear c33
                      replace H := Option.bind_eq_some_iff.mp H
                      obtain ⟨t314, A340, H⟩ := H
                      replace H : (some t314) = some r := H
                      have A34 := Aside0.mk A340
                      clear A340
                      obtain rfl := Option.some.inj H
                      go_wp2_with (first | ((with_reducible refine gate_callee (f := 22) rfl ?_); refine goesL_ (some 66) rfl rfl Try.func22 (by kernel_rfl) rfl #[.int .i64 3, .int .u64 a0, .int .u64 a1] rfl (by (try simp only [List.map_toArray, List.map_cons, List.map_nil]); first | done | rfl | (simp only [List.length_drop, List.length_take]; rfl)) ?_; (with_reducible refine (word_Branch.calls 3 a0 a1 t312 _ A31.out).mono ?_); rintro e w' ⟨rfl, ⟨nd, rfl⟩⟩; refine ⟨_, rfl, ?_⟩) | ((with_reducible refine gate_callee (f := 22) rfl ?_); refine goesL_ (some 71) rfl rfl Try.func22 (by kernel_rfl) rfl #[.int .i64 5, .int .u64 (Go.bits .xor .u64 a0 9223372036854775808), .int .u64 (Go.bits .xor .u64 a1 9223372036854775808)] rfl (by (try simp only [List.map_toArray, List.map_cons, List.map_nil]); first | done | rfl | (simp only [List.length_drop, List.length_take]; rfl)) ?_; (with_reducible refine (word_Branch.calls 5 (Go.bits .xor .u64 a0 9223372036854775808) (Go.bits .xor .u64 a1 9223372036854775808) t313 _ A32.out).mono ?_); rintro e w' ⟨rfl, ⟨nd, rfl⟩⟩; refine ⟨_, rfl, ?_⟩) | (go_at_call 17; (with_reducible refine (citadellaw01_awake.calls  t314 _ A34.out).mono ?_); rintro e w35 ⟨rfl, hb⟩; have n0_ := Aside0.mk (below_step (by repeat (first | (with_reducible first | exact HB.out | apply below_alloc | apply pw_below_drewN | apply below_drew1) | exact HB.out)) hb); clear HB; have HB := n0_; clear n0_; (try clear hb); (try clear hb2); (try clear hk); (try clear hi)))
                      go_ret
                      exact ⟨by first | rfl | (simp [errW_none, errW_some] <;> rfl) | (simp [*, errW_none, errW_some] <;> rfl), by repeat (first | (with_reducible first | exact HB.out | apply below_alloc | apply pw_below_drewN | apply below_drew1) | exact HB.out)⟩
                    · rw [if_neg c33] at H
                      have c33b0 : (t312 == t313) = false := by simpa using c33
                      (try (have c33b1 : decide (t312 = t313) = false := by simpa using c33))
                      (try (have c33b2 : (t312 == t313) = false := by simpa using c33))
                      (try (have c33b3 : ¬ (t312 = t313) := by simpa using c33))
                      clear c33
                      obtain rfl := Option.some.inj H
                      go_wp2_with (first | ((with_reducible refine gate_callee (f := 22) rfl ?_); refine goesL_ (some 66) rfl rfl Try.func22 (by kernel_rfl) rfl #[.int .i64 3, .int .u64 a0, .int .u64 a1] rfl (by (try simp only [List.map_toArray, List.map_cons, List.map_nil]); first | done | rfl | (simp only [List.length_drop, List.length_take]; rfl)) ?_; (with_reducible refine (word_Branch.calls 3 a0 a1 t312 _ A31.out).mono ?_); rintro e w' ⟨rfl, ⟨nd, rfl⟩⟩; refine ⟨_, rfl, ?_⟩) | ((with_reducible refine gate_callee (f := 22) rfl ?_); refine goesL_ (some 71) rfl rfl Try.func22 (by kernel_rfl) rfl #[.int .i64 5, .int .u64 (Go.bits .xor .u64 a0 9223372036854775808), .int .u64 (Go.bits .xor .u64 a1 9223372036854775808)] rfl (by (try simp only [List.map_toArray, List.map_cons, List.map_nil]); first | done | rfl | (simp only [List.length_drop, List.length_take]; rfl)) ?_; (with_reducible refine (word_Branch.calls 5 (Go.bits .xor .u64 a0 9223372036854775808) (Go.bits .xor .u64 a1 9223372036854775808) t313 _ A32.out).mono ?_); rintro e w' ⟨rfl, ⟨nd, rfl⟩⟩; refine ⟨_, rfl, ?_⟩))
                      go_ret
                      exact ⟨by first | rfl | (simp [errW_none, errW_some] <;> rfl) | (simp [*, errW_none, errW_some] <;> rfl), by repeat (first | (with_reducible first | exact HB.out | apply below_alloc | apply pw_below_drewN | apply below_drew1) | exact HB.out)⟩

/-- THE ONE PURE STATEMENT of citadellaw01_WordOrders: yours. -/
def citadellaw01_WordOrders.Pure : Prop := ∀ (a0 : Int) (a1 : Int) (a2 : Int), (Lit.int .u64 a0).wf = true → (Lit.int .u64 a1).wf = true → (Lit.int .u64 a2).wf = true → ∃ k, citadellaw01_WordOrders.f k a0 a1 a2 = some true
theorem citadellaw01_WordOrders.walk (P : citadellaw01_WordOrders.Pure) (a0 : Int) (a1 : Int) (a2 : Int) (w : World) (w0 : (Lit.int .u64 a0).wf = true) (w1 : (Lit.int .u64 a1).wf = true) (w2 : (Lit.int .u64 a2).wf = true) :
    Calls Try.prog 13 #[.int .u64 a0, .int .u64 a1, .int .u64 a2] w fun e w' => e = .returned (.bool true) ∧ Below w.heap.size w w' := by
  obtain ⟨k, h⟩ := P a0 a1 a2 w0 w1 w2
  refine (citadellaw01_WordOrders.calls k a0 a1 a2 true w h).mono ?_
  rintro e w' ⟨rfl, hd⟩
  exact ⟨rfl, hd⟩

end Go.Proofs.Ytmfbijfghonnjaa.PA
