/- What the program's functions answer, call by call, and the row of a law; no conditions beyond each theorem's own. Written by a program of this repo (xprint.py, over the kit's printer, with contracts of the session's own). Lean checks it. -/
import Derived.Test.YtmfbijfghonnjaaPAx0
import Derived.Test.YtmfbijfghonnjaaPAx2
import Derived.Test.YtmfbijfghonnjaaPAx4
namespace Go.Proofs.Ytmfbijfghonnjaa.PA
open Go.RowKit Go.Proofs.YtmfbijfghonnjaaW.PrintWords Go.Proofs.YtmfbijfghonnjaaW.PrintLast Go.Proofs.YtmfbijfghonnjaaW.PrintMore
attribute [local go_sem] max2_int min2_int max_two min_two max_three min_three max_four min_four   -- for this text's walks alone
set_option linter.unusedVariables false
set_option linter.unusedSimpArgs false

/-! ### citadellaw01_WordShifts: function 8 -/
def citadellaw01_WordShifts.j0 : Nat → Int → Int → Int → Bool → Option (Bool)
  | 0, _, _, _, _ => none
  | k + 1, x0, x1, x5, x32 => if x32 = true then (some false) else ((word_Alu.f 8 x0 x1).bind fun t268 => ((word_Alu.f 3 x0 x1).bind fun t269 => (if 0 ≤ x5 then (if t269 = (shl .u64 x0 x5) then ((word_Alu.f 7 x0 x1).bind fun t270 => (if t270 = (shr .u64 x0 x5) then (if (wrap64 (t268)) = (shr .i64 (wrap64 (x0)) x5) then ((citadellaw01_awake.f).bind fun t271 => (some t271)) else (some false)) else (some false))) else (some false)) else (none))))
def citadellaw01_WordShifts.f (k : Nat) (a0 : Int) (a1 : Int) : Option (Bool) := (word_Alu.f 3 a0 (Int.tmod a1 64)).bind fun t264 => ((word_Alu.f 7 t264 (Int.tmod a1 64)).bind fun t265 => (if 0 ≤ (Int.tmod a1 64) then (if t265 = (shr .u64 (shl .u64 a0 (Int.tmod a1 64)) (Int.tmod a1 64)) then ((word_Alu.f 7 a0 (Int.tmod a1 64)).bind fun t266 => ((word_Alu.f 3 t266 (Int.tmod a1 64)).bind fun t267 => (citadellaw01_WordShifts.j0 k a0 a1 (Int.tmod a1 64) (t267 != (shl .u64 (shr .u64 a0 (Int.tmod a1 64)) (Int.tmod a1 64)))))) else (citadellaw01_WordShifts.j0 k a0 a1 (Int.tmod a1 64) true)) else (none)))
theorem citadellaw01_WordShifts.mono_l : ∀ k, (∀ y0 y1 y2 y3, LeO (citadellaw01_WordShifts.j0 k y0 y1 y2 y3) (citadellaw01_WordShifts.j0 (k + 1) y0 y1 y2 y3))
  | 0 => fun _ _ _ _ r h => by simp [citadellaw01_WordShifts.j0] at h
  | k + 1 => by
    have ih0 := citadellaw01_WordShifts.mono_l k
    · intro y0 y1 y2 y3
      unfold citadellaw01_WordShifts.j0
      repeat' first
      | (with_reducible exact ih0 _ _ _ _)
      | (with_reducible exact LeO.refl _)
      | (with_reducible exact LeO.none _)
      | (with_reducible refine LeO.ite ?_ ?_)
      | (with_reducible refine LeO.bind ?_ (fun _ => ?_))
      | exact ih0 _ _ _ _
      | exact LeO.none _
      | refine LeO.ite ?_ ?_
      | refine LeO.bind ?_ (fun _ => ?_)
theorem citadellaw01_WordShifts.mono : ∀ a0 a1 k, LeO (citadellaw01_WordShifts.f k a0 a1) (citadellaw01_WordShifts.f (k + 1) a0 a1) := by
  intro a0 a1 k
  have ih0 := citadellaw01_WordShifts.mono_l k
  unfold citadellaw01_WordShifts.f
  repeat' first
      | (with_reducible exact ih0 _ _ _ _)
      | (with_reducible exact LeO.refl _)
      | (with_reducible exact LeO.none _)
      | (with_reducible refine LeO.ite ?_ ?_)
      | (with_reducible refine LeO.bind ?_ (fun _ => ?_))
      | exact ih0 _ _ _ _
      | exact LeO.none _
      | refine LeO.ite ?_ ?_
      | refine LeO.bind ?_ (fun _ => ?_)
set_option maxHeartbeats 8000000 in
set_option maxRecDepth 100000 in
theorem citadellaw01_WordShifts.calls (k : Nat) (a0 : Int) (a1 : Int) (r : Bool) (w : World) (h : citadellaw01_WordShifts.f k a0 a1 = some r) :
    Calls Try.prog 8 #[.int .u64 a0, .int .u64 a1] w fun e w' => e = .returned (.bool r) ∧ Below w.heap.size w w' := by
  have HB := Aside0.mk (Below.refl w.heap.size w)
  have H : ((word_Alu.f 3 a0 (Int.tmod a1 64)).bind fun t264 => ((word_Alu.f 7 t264 (Int.tmod a1 64)).bind fun t265 => (if 0 ≤ (Int.tmod a1 64) then (if t265 = (shr .u64 (shl .u64 a0 (Int.tmod a1 64)) (Int.tmod a1 64)) then ((word_Alu.f 7 a0 (Int.tmod a1 64)).bind fun t266 => ((word_Alu.f 3 t266 (Int.tmod a1 64)).bind fun t267 => (citadellaw01_WordShifts.j0 k a0 a1 (Int.tmod a1 64) (t267 != (shl .u64 (shr .u64 a0 (Int.tmod a1 64)) (Int.tmod a1 64)))))) else (citadellaw01_WordShifts.j0 k a0 a1 (Int.tmod a1 64) true)) else (none)))) = some r := h
  clear h
  have HC3 := Aside0.mk H
  clear H
  go_enter Try.func8, Try.ntmps8
  go_upto_region 2 with (fail)
  go_cut [32] (fun v32 wc => ∃ (kq : Nat) (x32_2 : Bool), v32 = .bool x32_2 ∧ Aside0 (citadellaw01_WordShifts.j0 kq a0 a1 (Int.tmod a1 64) x32_2 = some r) ∧ Aside0 (kq ≤ k) ∧ Aside0 (Below w.heap.size w wc))
  case first =>
    have H := HC3.out
    clear HC3
    replace H := Option.bind_eq_some_iff.mp H
    obtain ⟨t264, A40, H⟩ := H
    replace H : ((word_Alu.f 7 t264 (Int.tmod a1 64)).bind fun t265 => (if 0 ≤ (Int.tmod a1 64) then (if t265 = (shr .u64 (shl .u64 a0 (Int.tmod a1 64)) (Int.tmod a1 64)) then ((word_Alu.f 7 a0 (Int.tmod a1 64)).bind fun t266 => ((word_Alu.f 3 t266 (Int.tmod a1 64)).bind fun t267 => (citadellaw01_WordShifts.j0 k a0 a1 (Int.tmod a1 64) (t267 != (shl .u64 (shr .u64 a0 (Int.tmod a1 64)) (Int.tmod a1 64)))))) else (citadellaw01_WordShifts.j0 k a0 a1 (Int.tmod a1 64) true)) else (none))) = some r := H
    have A4 := Aside0.mk A40
    clear A40
    replace H := Option.bind_eq_some_iff.mp H
    obtain ⟨t265, A50, H⟩ := H
    replace H : (if 0 ≤ (Int.tmod a1 64) then (if t265 = (shr .u64 (shl .u64 a0 (Int.tmod a1 64)) (Int.tmod a1 64)) then ((word_Alu.f 7 a0 (Int.tmod a1 64)).bind fun t266 => ((word_Alu.f 3 t266 (Int.tmod a1 64)).bind fun t267 => (citadellaw01_WordShifts.j0 k a0 a1 (Int.tmod a1 64) (t267 != (shl .u64 (shr .u64 a0 (Int.tmod a1 64)) (Int.tmod a1 64)))))) else (citadellaw01_WordShifts.j0 k a0 a1 (Int.tmod a1 64) true)) else (none)) = some r := H
    have A5 := Aside0.mk A50
    clear A50
    obtain ⟨ji6, hji6⟩ : ∃ j_ : Int, (Int.tmod a1 64) = j_ := ⟨_, rfl⟩
    replace H : (if 0 ≤ (ji6) then (if t265 = (shr .u64 (shl .u64 a0 (ji6)) (ji6)) then ((word_Alu.f 7 a0 (ji6)).bind fun t266 => ((word_Alu.f 3 t266 (ji6)).bind fun t267 => (citadellaw01_WordShifts.j0 k a0 a1 ji6 (t267 != (shl .u64 (shr .u64 a0 (ji6)) (ji6)))))) else (citadellaw01_WordShifts.j0 k a0 a1 ji6 true)) else (none)) = some r := by first | (rw [hji6] at H; exact H) | (simp only [hji6] at H ⊢; exact H)
    (try rw [hji6] at A4)
    (try rw [hji6] at A5)
    by_cases c7 : 0 ≤ (ji6)
    · rw [if_pos c7] at H
      have c7b0 := eq_true c7
      have c7b1 : decide (0 ≤ (ji6)) = true := decide_eq_true c7
      clear c7
      obtain ⟨ji8, hji8⟩ : ∃ j_ : Int, (shl .u64 a0 (ji6)) = j_ := ⟨_, rfl⟩
      replace H : (if t265 = (shr .u64 (ji8) (ji6)) then ((word_Alu.f 7 a0 (ji6)).bind fun t266 => ((word_Alu.f 3 t266 (ji6)).bind fun t267 => (citadellaw01_WordShifts.j0 k a0 a1 ji6 (t267 != (shl .u64 (shr .u64 a0 (ji6)) (ji6)))))) else (citadellaw01_WordShifts.j0 k a0 a1 ji6 true)) = some r := by first | (rw [hji8] at H; exact H) | (simp only [hji8] at H ⊢; exact H)
      (try rw [hji8] at A4)
      (try rw [hji8] at A5)
      have hji8_ : (IntKind.u64.wrap (a0 * 2 ^ min (ji6).toNat 64)) = ji8 := hji8
      have hji8z : (ji6) ≤ 64 → (IntKind.u64.wrap (a0 * 2 ^ (ji6).toNat)) = ji8 := shl_small hji8
      have c9b0 := eq_true (of_decide_eq_true (by first | (with_reducible assumption) | assumption) : 0 ≤ (ji6))
      obtain ⟨ji10, hji10⟩ : ∃ j_ : Int, (shr .u64 (ji8) (ji6)) = j_ := ⟨_, rfl⟩
      replace H : (if t265 = (ji10) then ((word_Alu.f 7 a0 (ji6)).bind fun t266 => ((word_Alu.f 3 t266 (ji6)).bind fun t267 => (citadellaw01_WordShifts.j0 k a0 a1 ji6 (t267 != (shl .u64 (shr .u64 a0 (ji6)) (ji6)))))) else (citadellaw01_WordShifts.j0 k a0 a1 ji6 true)) = some r := by first | (rw [hji10] at H; exact H) | (simp only [hji10] at H ⊢; exact H)
      (try rw [hji10] at A4)
      (try rw [hji10] at A5)
      have hji10_ : ((ji8) / 2 ^ min (ji6).toNat 64) = ji10 := hji10
      have hji10z : (ji6) ≤ 64 → ((ji8) / 2 ^ (ji6).toNat) = ji10 := shr_small hji10
      by_cases c11 : t265 = (ji10)
      · rw [if_pos c11] at H
        have c11b0 : (t265 == (ji10)) = true := beq_iff_eq.mpr c11
        have c11b1 : (t265 != (ji10)) = false := bne_eq_false_iff_eq.mpr c11
        clear c11
        (first | rw [c11b0] | (simp only [i64_w, i32_w]; rw [c11b0]) | skip)
        replace H := Option.bind_eq_some_iff.mp H
        obtain ⟨t266, A120, H⟩ := H
        replace H : ((word_Alu.f 3 t266 (ji6)).bind fun t267 => (citadellaw01_WordShifts.j0 k a0 a1 ji6 (t267 != (shl .u64 (shr .u64 a0 (ji6)) (ji6))))) = some r := H
        have A12 := Aside0.mk A120
        clear A120
        replace H := Option.bind_eq_some_iff.mp H
        obtain ⟨t267, A130, H⟩ := H
        replace H : (citadellaw01_WordShifts.j0 k a0 a1 ji6 (t267 != (shl .u64 (shr .u64 a0 (ji6)) (ji6)))) = some r := H
        have A13 := Aside0.mk A130
        clear A130
        have c14b0 := eq_true (of_decide_eq_true (by first | (with_reducible assumption) | assumption) : 0 ≤ (ji6))
        obtain ⟨ji15, hji15⟩ : ∃ j_ : Int, (shr .u64 a0 (ji6)) = j_ := ⟨_, rfl⟩
        replace H : (citadellaw01_WordShifts.j0 k a0 a1 ji6 (t267 != (shl .u64 (ji15) (ji6)))) = some r := by first | (rw [hji15] at H; exact H) | (simp only [hji15] at H ⊢; exact H)
        (try rw [hji15] at A4)
        (try rw [hji15] at A5)
        (try rw [hji15] at A12)
        (try rw [hji15] at A13)
        have hji15_ : (a0 / 2 ^ min (ji6).toNat 64) = ji15 := hji15
        have hji15z : (ji6) ≤ 64 → (a0 / 2 ^ (ji6).toNat) = ji15 := shr_small hji15
        have c16b0 := eq_true (of_decide_eq_true (by first | (with_reducible assumption) | assumption) : 0 ≤ (ji6))
        obtain ⟨ji17, hji17⟩ : ∃ j_ : Int, (shl .u64 (ji15) (ji6)) = j_ := ⟨_, rfl⟩
        replace H : (citadellaw01_WordShifts.j0 k a0 a1 ji6 (t267 != (ji17))) = some r := by first | (rw [hji17] at H; exact H) | (simp only [hji17] at H ⊢; exact H)
        (try rw [hji17] at A4)
        (try rw [hji17] at A5)
        (try rw [hji17] at A12)
        (try rw [hji17] at A13)
        have hji17_ : (IntKind.u64.wrap ((ji15) * 2 ^ min (ji6).toNat 64)) = ji17 := hji17
        have hji17z : (ji6) ≤ 64 → (IntKind.u64.wrap ((ji15) * 2 ^ (ji6).toNat)) = ji17 := shl_small hji17
        have H' := Aside0.mk H
        clear H
        go_wp2_with (first | ((with_reducible refine gate_callee (f := 15) rfl ?_); refine goesL_ (some 11) rfl rfl Try.func15 (by kernel_rfl) rfl #[.int .i64 3, .int .u64 a0, .int .u64 ji6] rfl (by (try simp only [List.map_toArray, List.map_cons, List.map_nil]); first | done | (simp only [hji6]; rfl) | rfl | (simp only [List.length_drop, List.length_take]; rfl)) ?_; (with_reducible refine (word_Alu.calls 3 a0 ji6 t264 _ A4.out).mono ?_); rintro e w18 ⟨rfl, hb⟩; refine ⟨_, rfl, ?_⟩; have n0_ := Aside0.mk (below_step (by repeat (first | (with_reducible first | exact HB.out | apply below_alloc | apply pw_below_drewN | apply below_drew1) | exact HB.out)) hb); clear HB; have HB := n0_; clear n0_; (try clear hb); (try clear hb2); (try clear hk); (try clear hi)) | ((with_reducible refine gate_callee (f := 15) rfl ?_); refine goesL_ (some 13) rfl rfl Try.func15 (by kernel_rfl) rfl #[.int .i64 7, .int .u64 t264, .int .u64 ji6] rfl (by (try simp only [List.map_toArray, List.map_cons, List.map_nil]); first | done | (simp only [hji6]; rfl) | rfl | (simp only [List.length_drop, List.length_take]; rfl)) ?_; (with_reducible refine (word_Alu.calls 7 t264 ji6 t265 _ A5.out).mono ?_); rintro e w19 ⟨rfl, hb⟩; refine ⟨_, rfl, ?_⟩; have n0_ := Aside0.mk (below_step (by repeat (first | (with_reducible first | exact HB.out | apply below_alloc | apply pw_below_drewN | apply below_drew1) | exact HB.out)) hb); clear HB; have HB := n0_; clear n0_; (try clear hb); (try clear hb2); (try clear hk); (try clear hi)) | (go_at_call 15; (with_reducible refine (word_Alu.calls 7 a0 ji6 t266 _ A12.out).mono ?_); rintro e w20 ⟨rfl, hb⟩; have n0_ := Aside0.mk (below_step (by repeat (first | (with_reducible first | exact HB.out | apply below_alloc | apply pw_below_drewN | apply below_drew1) | exact HB.out)) hb); clear HB; have HB := n0_; clear n0_; (try clear hb); (try clear hb2); (try clear hk); (try clear hi)) | (go_at_call 15; (with_reducible refine (word_Alu.calls 3 t266 ji6 t267 _ A13.out).mono ?_); rintro e w21 ⟨rfl, hb⟩; have n0_ := Aside0.mk (below_step (by repeat (first | (with_reducible first | exact HB.out | apply below_alloc | apply pw_below_drewN | apply below_drew1) | exact HB.out)) hb); clear HB; have HB := n0_; clear n0_; (try clear hb); (try clear hb2); (try clear hk); (try clear hi)))
        (try simp only [← hji6] at H' ⊢)
        go_meet
        case rel => exact ⟨_, ((t267 != (ji17))), (by first | rfl | (simp; done) | (simp only [← hji17] <;> (first | rfl | simp)) | (simp [*]; done)), H', ⟨by first | omega | exact Nat.le_refl _⟩, ⟨by repeat (first | (with_reducible first | exact HB.out | apply below_alloc | apply pw_below_drewN | apply below_drew1) | exact HB.out)⟩⟩
      · rw [if_neg c11] at H
        have c11b0 : (t265 == (ji10)) = false := beq_eq_false_iff_ne.mpr c11
        have c11b1 : (t265 != (ji10)) = true := bne_iff_ne.mpr c11
        (first | rw [c11b0] | (simp only [i64_w, i32_w]; rw [c11b0]) | skip)
        have H' := Aside0.mk H
        clear H
        go_wp2_with (first | ((with_reducible refine gate_callee (f := 15) rfl ?_); refine goesL_ (some 11) rfl rfl Try.func15 (by kernel_rfl) rfl #[.int .i64 3, .int .u64 a0, .int .u64 ji6] rfl (by (try simp only [List.map_toArray, List.map_cons, List.map_nil]); first | done | (simp only [hji6]; rfl) | rfl | (simp only [List.length_drop, List.length_take]; rfl)) ?_; (with_reducible refine (word_Alu.calls 3 a0 ji6 t264 _ A4.out).mono ?_); rintro e w22 ⟨rfl, hb⟩; refine ⟨_, rfl, ?_⟩; have n0_ := Aside0.mk (below_step (by repeat (first | (with_reducible first | exact HB.out | apply below_alloc | apply pw_below_drewN | apply below_drew1) | exact HB.out)) hb); clear HB; have HB := n0_; clear n0_; (try clear hb); (try clear hb2); (try clear hk); (try clear hi)) | ((with_reducible refine gate_callee (f := 15) rfl ?_); refine goesL_ (some 13) rfl rfl Try.func15 (by kernel_rfl) rfl #[.int .i64 7, .int .u64 t264, .int .u64 ji6] rfl (by (try simp only [List.map_toArray, List.map_cons, List.map_nil]); first | done | (simp only [hji6]; rfl) | rfl | (simp only [List.length_drop, List.length_take]; rfl)) ?_; (with_reducible refine (word_Alu.calls 7 t264 ji6 t265 _ A5.out).mono ?_); rintro e w23 ⟨rfl, hb⟩; refine ⟨_, rfl, ?_⟩; have n0_ := Aside0.mk (below_step (by repeat (first | (with_reducible first | exact HB.out | apply below_alloc | apply pw_below_drewN | apply below_drew1) | exact HB.out)) hb); clear HB; have HB := n0_; clear n0_; (try clear hb); (try clear hb2); (try clear hk); (try clear hi)))
        (try simp only [← hji6] at H' ⊢)
        go_meet
        case rel => exact ⟨_, (true), (by first | rfl | (simp; done) | (simp [*]; done)), H', ⟨by first | omega | exact Nat.le_refl _⟩, ⟨by repeat (first | (with_reducible first | exact HB.out | apply below_alloc | apply pw_below_drewN | apply below_drew1) | exact HB.out)⟩⟩
    · rw [if_neg c7] at H
      exact absurd H (by simp)
  case rest =>
    clear HC3
    try clear c1
    try clear p2
    try clear c7
    try clear c7b0
    try clear c7b1
    try clear c8
    try clear c9
    try clear c9b0
    try clear c11
    try clear c11b0
    try clear c11b1
    try clear c14
    try clear c14b0
    try clear c15
    try clear c16
    try clear c16b0
    obtain ⟨kq, x32_2, rfl, HA, HJ2, HB⟩ := hcut
    cases kq with
    | zero => exact absurd HA.out (by simp [citadellaw01_WordShifts.j0])
    | succ kj2 =>
      have H := HA.out
      clear HA
      simp only [citadellaw01_WordShifts.j0] at H
      by_cases c24 : x32_2 = true
      · subst c24
        have H1 : (some false) = some r := by rw [if_pos rfl] at H; exact H
        clear H
        have H := H1
        clear H1
        obtain rfl := Option.some.inj H
        go_wp2
        go_ret
        exact ⟨by first | rfl | (simp [errW_none, errW_some] <;> rfl) | (simp [*, errW_none, errW_some] <;> rfl), by repeat (first | (with_reducible first | exact HB.out | apply below_alloc | apply pw_below_drewN | apply below_drew1) | exact HB.out)⟩
      · replace c24 := Bool.eq_false_iff.mpr c24
        subst c24
        have H1 : ((word_Alu.f 8 a0 a1).bind fun t268 => ((word_Alu.f 3 a0 a1).bind fun t269 => (if 0 ≤ (Int.tmod a1 64) then (if t269 = (shl .u64 a0 (Int.tmod a1 64)) then ((word_Alu.f 7 a0 a1).bind fun t270 => (if t270 = (shr .u64 a0 (Int.tmod a1 64)) then (if (wrap64 (t268)) = (shr .i64 (wrap64 (a0)) (Int.tmod a1 64)) then ((citadellaw01_awake.f).bind fun t271 => (some t271)) else (some false)) else (some false))) else (some false)) else (none)))) = some r := by rw [if_neg (show ¬ (false = true) by decide)] at H; exact H
        clear H
        have H := H1
        clear H1
        replace H := Option.bind_eq_some_iff.mp H
        obtain ⟨t268, A250, H⟩ := H
        replace H : ((word_Alu.f 3 a0 a1).bind fun t269 => (if 0 ≤ (Int.tmod a1 64) then (if t269 = (shl .u64 a0 (Int.tmod a1 64)) then ((word_Alu.f 7 a0 a1).bind fun t270 => (if t270 = (shr .u64 a0 (Int.tmod a1 64)) then (if (wrap64 (t268)) = (shr .i64 (wrap64 (a0)) (Int.tmod a1 64)) then ((citadellaw01_awake.f).bind fun t271 => (some t271)) else (some false)) else (some false))) else (some false)) else (none))) = some r := H
        have A25 := Aside0.mk A250
        clear A250
        replace H := Option.bind_eq_some_iff.mp H
        obtain ⟨t269, A260, H⟩ := H
        replace H : (if 0 ≤ (Int.tmod a1 64) then (if t269 = (shl .u64 a0 (Int.tmod a1 64)) then ((word_Alu.f 7 a0 a1).bind fun t270 => (if t270 = (shr .u64 a0 (Int.tmod a1 64)) then (if (wrap64 (t268)) = (shr .i64 (wrap64 (a0)) (Int.tmod a1 64)) then ((citadellaw01_awake.f).bind fun t271 => (some t271)) else (some false)) else (some false))) else (some false)) else (none)) = some r := H
        have A26 := Aside0.mk A260
        clear A260
        obtain ⟨ji27, hji27⟩ : ∃ j_ : Int, (Int.tmod a1 64) = j_ := ⟨_, rfl⟩
        replace H : (if 0 ≤ (ji27) then (if t269 = (shl .u64 a0 (ji27)) then ((word_Alu.f 7 a0 a1).bind fun t270 => (if t270 = (shr .u64 a0 (ji27)) then (if (wrap64 (t268)) = (shr .i64 (wrap64 (a0)) (ji27)) then ((citadellaw01_awake.f).bind fun t271 => (some t271)) else (some false)) else (some false))) else (some false)) else (none)) = some r := by first | (rw [hji27] at H; exact H) | (simp only [hji27] at H ⊢; exact H)
        (try rw [hji27] at A25)
        (try rw [hji27] at A26)
        by_cases c28 : 0 ≤ (ji27)
        · rw [if_pos c28] at H
          have c28b0 := eq_true c28
          have c28b1 : decide (0 ≤ (ji27)) = true := decide_eq_true c28
          clear c28
          obtain ⟨ji29, hji29⟩ : ∃ j_ : Int, (shl .u64 a0 (ji27)) = j_ := ⟨_, rfl⟩
          replace H : (if t269 = (ji29) then ((word_Alu.f 7 a0 a1).bind fun t270 => (if t270 = (shr .u64 a0 (ji27)) then (if (wrap64 (t268)) = (shr .i64 (wrap64 (a0)) (ji27)) then ((citadellaw01_awake.f).bind fun t271 => (some t271)) else (some false)) else (some false))) else (some false)) = some r := by first | (rw [hji29] at H; exact H) | (simp only [hji29] at H ⊢; exact H)
          (try rw [hji29] at A25)
          (try rw [hji29] at A26)
          have hji29_ : (IntKind.u64.wrap (a0 * 2 ^ min (ji27).toNat 64)) = ji29 := hji29
          have hji29z : (ji27) ≤ 64 → (IntKind.u64.wrap (a0 * 2 ^ (ji27).toNat)) = ji29 := shl_small hji29
          by_cases c30 : t269 = (ji29)
          · rw [if_pos c30] at H
            have c30b0 : (t269 == (ji29)) = true := beq_iff_eq.mpr c30
            have c30b1 : (t269 != (ji29)) = false := bne_eq_false_iff_eq.mpr c30
            clear c30
            replace H := Option.bind_eq_some_iff.mp H
            obtain ⟨t270, A310, H⟩ := H
            replace H : (if t270 = (shr .u64 a0 (ji27)) then (if (wrap64 (t268)) = (shr .i64 (wrap64 (a0)) (ji27)) then ((citadellaw01_awake.f).bind fun t271 => (some t271)) else (some false)) else (some false)) = some r := H
            have A31 := Aside0.mk A310
            clear A310
            have c32b0 := eq_true (of_decide_eq_true (by first | (with_reducible assumption) | assumption) : 0 ≤ (ji27))
            obtain ⟨ji33, hji33⟩ : ∃ j_ : Int, (shr .u64 a0 (ji27)) = j_ := ⟨_, rfl⟩
            replace H : (if t270 = (ji33) then (if (wrap64 (t268)) = (shr .i64 (wrap64 (a0)) (ji27)) then ((citadellaw01_awake.f).bind fun t271 => (some t271)) else (some false)) else (some false)) = some r := by first | (rw [hji33] at H; exact H) | (simp only [hji33] at H ⊢; exact H)
            (try rw [hji33] at A25)
            (try rw [hji33] at A26)
            (try rw [hji33] at A31)
            have hji33_ : (a0 / 2 ^ min (ji27).toNat 64) = ji33 := hji33
            have hji33z : (ji27) ≤ 64 → (a0 / 2 ^ (ji27).toNat) = ji33 := shr_small hji33
            by_cases c34 : t270 = (ji33)
            · rw [if_pos c34] at H
              have c34b0 : (t270 == (ji33)) = true := beq_iff_eq.mpr c34
              have c34b1 : (t270 != (ji33)) = false := bne_eq_false_iff_eq.mpr c34
              clear c34
              have c35b0 := eq_true (of_decide_eq_true (by first | (with_reducible assumption) | assumption) : 0 ≤ (ji27))
              obtain ⟨ji36, hji36⟩ : ∃ j_ : Int, (shr .i64 (wrap64 (a0)) (ji27)) = j_ := ⟨_, rfl⟩
              replace H : (if (wrap64 (t268)) = (ji36) then ((citadellaw01_awake.f).bind fun t271 => (some t271)) else (some false)) = some r := by first | (rw [hji36] at H; exact H) | (simp only [hji36] at H ⊢; exact H)
              (try rw [hji36] at A25)
              (try rw [hji36] at A26)
              (try rw [hji36] at A31)
              have hji36_ : ((wrap64 (a0)) / 2 ^ min (ji27).toNat 64) = ji36 := hji36
              have hji36z : (ji27) ≤ 64 → ((wrap64 (a0)) / 2 ^ (ji27).toNat) = ji36 := shr_small hji36
              by_cases c37 : (wrap64 (t268)) = (ji36)
              · rw [if_pos c37] at H
                have c37b0 : ((wrap64 (t268)) == (ji36)) = true := beq_iff_eq.mpr c37
                have c37b1 : ((wrap64 (t268)) != (ji36)) = false := bne_eq_false_iff_eq.mpr c37
                clear c37
                replace H := Option.bind_eq_some_iff.mp H
                obtain ⟨t271, A380, H⟩ := H
                replace H : (some t271) = some r := H
                have A38 := Aside0.mk A380
                clear A380
                obtain rfl := Option.some.inj H
                go_wp2_with (first | ((with_reducible refine gate_callee (f := 15) rfl ?_); refine goesL_ (some 35) rfl rfl Try.func15 (by kernel_rfl) rfl #[.int .i64 8, .int .u64 a0, .int .u64 a1] rfl (by (try simp only [List.map_toArray, List.map_cons, List.map_nil]); first | done | rfl | (simp only [List.length_drop, List.length_take]; rfl)) ?_; (with_reducible refine (word_Alu.calls 8 a0 a1 t268 _ A25.out).mono ?_); rintro e w39 ⟨rfl, hb⟩; refine ⟨_, rfl, ?_⟩; have n0_ := Aside0.mk (below_step (by repeat (first | (with_reducible first | exact HB.out | apply below_alloc | apply pw_below_drewN | apply below_drew1) | exact HB.out)) hb); clear HB; have HB := n0_; clear n0_; (try clear hb); (try clear hb2); (try clear hk); (try clear hi)) | ((with_reducible refine gate_callee (f := 15) rfl ?_); refine goesL_ (some 38) rfl rfl Try.func15 (by kernel_rfl) rfl #[.int .i64 3, .int .u64 a0, .int .u64 a1] rfl (by (try simp only [List.map_toArray, List.map_cons, List.map_nil]); first | done | rfl | (simp only [List.length_drop, List.length_take]; rfl)) ?_; (with_reducible refine (word_Alu.calls 3 a0 a1 t269 _ A26.out).mono ?_); rintro e w40 ⟨rfl, hb⟩; refine ⟨_, rfl, ?_⟩; have n0_ := Aside0.mk (below_step (by repeat (first | (with_reducible first | exact HB.out | apply below_alloc | apply pw_below_drewN | apply below_drew1) | exact HB.out)) hb); clear HB; have HB := n0_; clear n0_; (try clear hb); (try clear hb2); (try clear hk); (try clear hi)) | (go_at_call 15; (with_reducible refine (word_Alu.calls 7 a0 a1 t270 _ A31.out).mono ?_); rintro e w41 ⟨rfl, hb⟩; have n0_ := Aside0.mk (below_step (by repeat (first | (with_reducible first | exact HB.out | apply below_alloc | apply pw_below_drewN | apply below_drew1) | exact HB.out)) hb); clear HB; have HB := n0_; clear n0_; (try clear hb); (try clear hb2); (try clear hk); (try clear hi)) | (go_at_call 17; (with_reducible refine (citadellaw01_awake.calls  t271 _ A38.out).mono ?_); rintro e w42 ⟨rfl, hb⟩; have n0_ := Aside0.mk (below_step (by repeat (first | (with_reducible first | exact HB.out | apply below_alloc | apply pw_below_drewN | apply below_drew1) | exact HB.out)) hb); clear HB; have HB := n0_; clear n0_; (try clear hb); (try clear hb2); (try clear hk); (try clear hi)))
                go_ret
                exact ⟨by first | rfl | (simp [errW_none, errW_some] <;> rfl) | (simp only [← hji27, ← hji29, ← hji33, ← hji36]; first | rfl | (simp [errW_none, errW_some] <;> rfl)) | (simp [*, errW_none, errW_some] <;> rfl), by repeat (first | (with_reducible first | exact HB.out | apply below_alloc | apply pw_below_drewN | apply below_drew1) | exact HB.out)⟩
              · rw [if_neg c37] at H
                have c37b0 : ((wrap64 (t268)) == (ji36)) = false := beq_eq_false_iff_ne.mpr c37
                have c37b1 : ((wrap64 (t268)) != (ji36)) = true := bne_iff_ne.mpr c37
                obtain rfl := Option.some.inj H
                go_wp2_with (first | ((with_reducible refine gate_callee (f := 15) rfl ?_); refine goesL_ (some 35) rfl rfl Try.func15 (by kernel_rfl) rfl #[.int .i64 8, .int .u64 a0, .int .u64 a1] rfl (by (try simp only [List.map_toArray, List.map_cons, List.map_nil]); first | done | rfl | (simp only [List.length_drop, List.length_take]; rfl)) ?_; (with_reducible refine (word_Alu.calls 8 a0 a1 t268 _ A25.out).mono ?_); rintro e w43 ⟨rfl, hb⟩; refine ⟨_, rfl, ?_⟩; have n0_ := Aside0.mk (below_step (by repeat (first | (with_reducible first | exact HB.out | apply below_alloc | apply pw_below_drewN | apply below_drew1) | exact HB.out)) hb); clear HB; have HB := n0_; clear n0_; (try clear hb); (try clear hb2); (try clear hk); (try clear hi)) | ((with_reducible refine gate_callee (f := 15) rfl ?_); refine goesL_ (some 38) rfl rfl Try.func15 (by kernel_rfl) rfl #[.int .i64 3, .int .u64 a0, .int .u64 a1] rfl (by (try simp only [List.map_toArray, List.map_cons, List.map_nil]); first | done | rfl | (simp only [List.length_drop, List.length_take]; rfl)) ?_; (with_reducible refine (word_Alu.calls 3 a0 a1 t269 _ A26.out).mono ?_); rintro e w44 ⟨rfl, hb⟩; refine ⟨_, rfl, ?_⟩; have n0_ := Aside0.mk (below_step (by repeat (first | (with_reducible first | exact HB.out | apply below_alloc | apply pw_below_drewN | apply below_drew1) | exact HB.out)) hb); clear HB; have HB := n0_; clear n0_; (try clear hb); (try clear hb2); (try clear hk); (try clear hi)) | (go_at_call 15; (with_reducible refine (word_Alu.calls 7 a0 a1 t270 _ A31.out).mono ?_); rintro e w45 ⟨rfl, hb⟩; have n0_ := Aside0.mk (below_step (by repeat (first | (with_reducible first | exact HB.out | apply below_alloc | apply pw_below_drewN | apply below_drew1) | exact HB.out)) hb); clear HB; have HB := n0_; clear n0_; (try clear hb); (try clear hb2); (try clear hk); (try clear hi)))
                go_ret
                exact ⟨by first | rfl | (simp [errW_none, errW_some] <;> rfl) | (simp only [← hji27, ← hji29, ← hji33, ← hji36]; first | rfl | (simp [errW_none, errW_some] <;> rfl)) | (simp [*, errW_none, errW_some] <;> rfl), by repeat (first | (with_reducible first | exact HB.out | apply below_alloc | apply pw_below_drewN | apply below_drew1) | exact HB.out)⟩
            · rw [if_neg c34] at H
              have c34b0 : (t270 == (ji33)) = false := beq_eq_false_iff_ne.mpr c34
              have c34b1 : (t270 != (ji33)) = true := bne_iff_ne.mpr c34
              obtain rfl := Option.some.inj H
              go_wp2_with (first | ((with_reducible refine gate_callee (f := 15) rfl ?_); refine goesL_ (some 35) rfl rfl Try.func15 (by kernel_rfl) rfl #[.int .i64 8, .int .u64 a0, .int .u64 a1] rfl (by (try simp only [List.map_toArray, List.map_cons, List.map_nil]); first | done | rfl | (simp only [List.length_drop, List.length_take]; rfl)) ?_; (with_reducible refine (word_Alu.calls 8 a0 a1 t268 _ A25.out).mono ?_); rintro e w46 ⟨rfl, hb⟩; refine ⟨_, rfl, ?_⟩; have n0_ := Aside0.mk (below_step (by repeat (first | (with_reducible first | exact HB.out | apply below_alloc | apply pw_below_drewN | apply below_drew1) | exact HB.out)) hb); clear HB; have HB := n0_; clear n0_; (try clear hb); (try clear hb2); (try clear hk); (try clear hi)) | ((with_reducible refine gate_callee (f := 15) rfl ?_); refine goesL_ (some 38) rfl rfl Try.func15 (by kernel_rfl) rfl #[.int .i64 3, .int .u64 a0, .int .u64 a1] rfl (by (try simp only [List.map_toArray, List.map_cons, List.map_nil]); first | done | rfl | (simp only [List.length_drop, List.length_take]; rfl)) ?_; (with_reducible refine (word_Alu.calls 3 a0 a1 t269 _ A26.out).mono ?_); rintro e w47 ⟨rfl, hb⟩; refine ⟨_, rfl, ?_⟩; have n0_ := Aside0.mk (below_step (by repeat (first | (with_reducible first | exact HB.out | apply below_alloc | apply pw_below_drewN | apply below_drew1) | exact HB.out)) hb); clear HB; have HB := n0_; clear n0_; (try clear hb); (try clear hb2); (try clear hk); (try clear hi)) | (go_at_call 15; (with_reducible refine (word_Alu.calls 7 a0 a1 t270 _ A31.out).mono ?_); rintro e w48 ⟨rfl, hb⟩; have n0_ := Aside0.mk (below_step (by repeat (first | (with_reducible first | exact HB.out | apply below_alloc | apply pw_below_drewN | apply below_drew1) | exact HB.out)) hb); clear HB; have HB := n0_; clear n0_; (try clear hb); (try clear hb2); (try clear hk); (try clear hi)))
              go_ret
              exact ⟨by first | rfl | (simp [errW_none, errW_some] <;> rfl) | (simp only [← hji27, ← hji29, ← hji33]; first | rfl | (simp [errW_none, errW_some] <;> rfl)) | (simp [*, errW_none, errW_some] <;> rfl), by repeat (first | (with_reducible first | exact HB.out | apply below_alloc | apply pw_below_drewN | apply below_drew1) | exact HB.out)⟩
          · rw [if_neg c30] at H
            have c30b0 : (t269 == (ji29)) = false := beq_eq_false_iff_ne.mpr c30
            have c30b1 : (t269 != (ji29)) = true := bne_iff_ne.mpr c30
            obtain rfl := Option.some.inj H
            go_wp2_with (first | ((with_reducible refine gate_callee (f := 15) rfl ?_); refine goesL_ (some 35) rfl rfl Try.func15 (by kernel_rfl) rfl #[.int .i64 8, .int .u64 a0, .int .u64 a1] rfl (by (try simp only [List.map_toArray, List.map_cons, List.map_nil]); first | done | rfl | (simp only [List.length_drop, List.length_take]; rfl)) ?_; (with_reducible refine (word_Alu.calls 8 a0 a1 t268 _ A25.out).mono ?_); rintro e w49 ⟨rfl, hb⟩; refine ⟨_, rfl, ?_⟩; have n0_ := Aside0.mk (below_step (by repeat (first | (with_reducible first | exact HB.out | apply below_alloc | apply pw_below_drewN | apply below_drew1) | exact HB.out)) hb); clear HB; have HB := n0_; clear n0_; (try clear hb); (try clear hb2); (try clear hk); (try clear hi)) | ((with_reducible refine gate_callee (f := 15) rfl ?_); refine goesL_ (some 38) rfl rfl Try.func15 (by kernel_rfl) rfl #[.int .i64 3, .int .u64 a0, .int .u64 a1] rfl (by (try simp only [List.map_toArray, List.map_cons, List.map_nil]); first | done | rfl | (simp only [List.length_drop, List.length_take]; rfl)) ?_; (with_reducible refine (word_Alu.calls 3 a0 a1 t269 _ A26.out).mono ?_); rintro e w50 ⟨rfl, hb⟩; refine ⟨_, rfl, ?_⟩; have n0_ := Aside0.mk (below_step (by repeat (first | (with_reducible first | exact HB.out | apply below_alloc | apply pw_below_drewN | apply below_drew1) | exact HB.out)) hb); clear HB; have HB := n0_; clear n0_; (try clear hb); (try clear hb2); (try clear hk); (try clear hi)))
            go_ret
            exact ⟨by first | rfl | (simp [errW_none, errW_some] <;> rfl) | (simp only [← hji27, ← hji29]; first | rfl | (simp [errW_none, errW_some] <;> rfl)) | (simp [*, errW_none, errW_some] <;> rfl), by repeat (first | (with_reducible first | exact HB.out | apply below_alloc | apply pw_below_drewN | apply below_drew1) | exact HB.out)⟩
        · rw [if_neg c28] at H
          exact absurd H (by simp)

/-- THE ONE PURE STATEMENT of citadellaw01_WordShifts: yours. -/
def citadellaw01_WordShifts.Pure : Prop := ∀ (a0 : Int) (a1 : Int), (Lit.int .u64 a0).wf = true → (Lit.int .u64 a1).wf = true → ∃ k, citadellaw01_WordShifts.f k a0 a1 = some true
theorem citadellaw01_WordShifts.walk (P : citadellaw01_WordShifts.Pure) (a0 : Int) (a1 : Int) (w : World) (w0 : (Lit.int .u64 a0).wf = true) (w1 : (Lit.int .u64 a1).wf = true) :
    Calls Try.prog 8 #[.int .u64 a0, .int .u64 a1] w fun e w' => e = .returned (.bool true) ∧ Below w.heap.size w w' := by
  obtain ⟨k, h⟩ := P a0 a1 w0 w1
  refine (citadellaw01_WordShifts.calls k a0 a1 true w h).mono ?_
  rintro e w' ⟨rfl, hd⟩
  exact ⟨rfl, hd⟩

/-! ### word_Extend: function 20 -/
def word_Extend.j0 : Nat → Int → Int → Bool → Bool → Option (Int)
  | 0, _, _, _, _ => none
  | k + 1, x0, x1, x2, x17 => if x17 = true then (some x0) else (if x2 = true then (if 0 ≤ (wrap64 (64 - (wrap64 (8 * x1)))) then (some (IntKind.u64.wrap (shr .i64 (wrap64 (shl .u64 x0 (wrap64 (64 - (wrap64 (8 * x1)))))) (wrap64 (64 - (wrap64 (8 * x1))))))) else (none)) else (if 0 ≤ (wrap64 (64 - (wrap64 (8 * x1)))) then (some (shr .u64 (shl .u64 x0 (wrap64 (64 - (wrap64 (8 * x1))))) (wrap64 (64 - (wrap64 (8 * x1)))))) else (none)))
def word_Extend.f (k : Nat) (a0 : Int) (a1 : Int) (a2 : Bool) : Option (Int) := if a1 = 1 then (word_Extend.j0 k a0 a1 a2 false) else (if a1 = 2 then (word_Extend.j0 k a0 a1 a2 false) else (word_Extend.j0 k a0 a1 a2 (a1 != 4)))
theorem word_Extend.mono_l : ∀ k, (∀ y0 y1 y2 y3, LeO (word_Extend.j0 k y0 y1 y2 y3) (word_Extend.j0 (k + 1) y0 y1 y2 y3))
  | 0 => fun _ _ _ _ r h => by simp [word_Extend.j0] at h
  | k + 1 => by
    have ih0 := word_Extend.mono_l k
    · intro y0 y1 y2 y3
      unfold word_Extend.j0
      repeat' first
      | (with_reducible exact ih0 _ _ _ _)
      | (with_reducible exact LeO.refl _)
      | (with_reducible exact LeO.none _)
      | (with_reducible refine LeO.ite ?_ ?_)
      | (with_reducible refine LeO.bind ?_ (fun _ => ?_))
      | exact ih0 _ _ _ _
      | exact LeO.none _
      | refine LeO.ite ?_ ?_
      | refine LeO.bind ?_ (fun _ => ?_)
theorem word_Extend.mono : ∀ a0 a1 a2 k, LeO (word_Extend.f k a0 a1 a2) (word_Extend.f (k + 1) a0 a1 a2) := by
  intro a0 a1 a2 k
  have ih0 := word_Extend.mono_l k
  unfold word_Extend.f
  repeat' first
      | (with_reducible exact ih0 _ _ _ _)
      | (with_reducible exact LeO.refl _)
      | (with_reducible exact LeO.none _)
      | (with_reducible refine LeO.ite ?_ ?_)
      | (with_reducible refine LeO.bind ?_ (fun _ => ?_))
      | exact ih0 _ _ _ _
      | exact LeO.none _
      | refine LeO.ite ?_ ?_
      | refine LeO.bind ?_ (fun _ => ?_)
set_option maxHeartbeats 8000000 in
set_option maxRecDepth 100000 in
theorem word_Extend.calls (k : Nat) (a0 : Int) (a1 : Int) (a2 : Bool) (r : Int) (w : World) (h : word_Extend.f k a0 a1 a2 = some r) :
    Calls Try.prog 20 #[.int .u64 a0, .int .i64 a1, .bool a2] w fun e w' => e = .returned (.int .u64 r) ∧ Drawn0 w w' := by
  have H : (if a1 = 1 then (word_Extend.j0 k a0 a1 a2 false) else (if a1 = 2 then (word_Extend.j0 k a0 a1 a2 false) else (word_Extend.j0 k a0 a1 a2 (a1 != 4)))) = some r := h
  clear h
  have HC4 := Aside0.mk H
  clear H
  go_enter Try.func20, Try.ntmps20
  go_upto_region 1 with (fail)
  go_cut [17] (fun v17 wc => ∃ (kq : Nat) (x17_3 : Bool), v17 = .bool x17_3 ∧ Aside0 (word_Extend.j0 kq a0 a1 a2 x17_3 = some r) ∧ Aside0 (kq ≤ k) ∧ Drawn0 w wc)
  case first =>
    have H := HC4.out
    clear HC4
    by_cases c5 : a1 = 1
    · rw [if_pos c5] at H
      have c5b0 : (a1 == 1) = true := beq_iff_eq.mpr c5
      have c5b1 : (a1 != 1) = false := bne_eq_false_iff_eq.mpr c5
      clear c5
      (first | rw [c5b0] | (simp only [i64_w, i32_w]; rw [c5b0]) | skip)
      have H' := Aside0.mk H
      clear H
      go_wp2
      go_meet
      case rel => exact ⟨_, (false), (by first | rfl | (simp; done) | (simp [*]; done)), H', ⟨by first | omega | exact Nat.le_refl _⟩, by repeat (first | exact Drawn0.refl _ | apply Drawn0.step)⟩
    · rw [if_neg c5] at H
      have c5b0 : (a1 == 1) = false := beq_eq_false_iff_ne.mpr c5
      have c5b1 : (a1 != 1) = true := bne_iff_ne.mpr c5
      (first | rw [c5b0] | (simp only [i64_w, i32_w]; rw [c5b0]) | skip)
      by_cases c6 : a1 = 2
      · rw [if_pos c6] at H
        have c6b0 : (a1 == 2) = true := beq_iff_eq.mpr c6
        have c6b1 : (a1 != 2) = false := bne_eq_false_iff_eq.mpr c6
        clear c6
        have H' := Aside0.mk H
        clear H
        go_wp2
        go_meet
        case rel => exact ⟨_, (false), (by first | rfl | (simp; done) | (simp [*]; done)), H', ⟨by first | omega | exact Nat.le_refl _⟩, by repeat (first | exact Drawn0.refl _ | apply Drawn0.step)⟩
      · rw [if_neg c6] at H
        have c6b0 : (a1 == 2) = false := beq_eq_false_iff_ne.mpr c6
        have c6b1 : (a1 != 2) = true := bne_iff_ne.mpr c6
        have H' := Aside0.mk H
        clear H
        go_wp2
        go_meet
        case rel => exact ⟨_, ((a1 != 4)), (by first | rfl | (simp; done) | (simp [*]; done)), H', ⟨by first | omega | exact Nat.le_refl _⟩, by repeat (first | exact Drawn0.refl _ | apply Drawn0.step)⟩
  case rest =>
    clear HC4
    try clear c2
    try clear p2
    try clear c5
    try clear c5b0
    try clear c5b1
    try clear c6
    try clear c6b0
    try clear c6b1
    obtain ⟨kq, x17_3, rfl, HA, HJ3, ⟨mc3, rfl⟩⟩ := hcut
    cases kq with
    | zero => exact absurd HA.out (by simp [word_Extend.j0])
    | succ kj3 =>
      have H := HA.out
      clear HA
      simp only [word_Extend.j0] at H
      by_cases c7 : x17_3 = true
      · subst c7
        have H1 : (some a0) = some r := by rw [if_pos rfl] at H; exact H
        clear H
        have H := H1
        clear H1
        obtain rfl := Option.some.inj H
        go_wp2
        go_ret
        exact ⟨by first | rfl | (simp; done) | (simp [*]; done), by repeat (first | exact Drawn0.refl _ | apply Drawn0.step)⟩
      · replace c7 := Bool.eq_false_iff.mpr c7
        subst c7
        have H1 : (if a2 = true then (if 0 ≤ (wrap64 (64 - (wrap64 (8 * a1)))) then (some (IntKind.u64.wrap (shr .i64 (wrap64 (shl .u64 a0 (wrap64 (64 - (wrap64 (8 * a1)))))) (wrap64 (64 - (wrap64 (8 * a1))))))) else (none)) else (if 0 ≤ (wrap64 (64 - (wrap64 (8 * a1)))) then (some (shr .u64 (shl .u64 a0 (wrap64 (64 - (wrap64 (8 * a1))))) (wrap64 (64 - (wrap64 (8 * a1)))))) else (none))) = some r := by rw [if_neg (show ¬ (false = true) by decide)] at H; exact H
        clear H
        have H := H1
        clear H1
        by_cases c8 : a2 = true
        · subst c8
          have H1 : (if 0 ≤ (wrap64 (64 - (wrap64 (8 * a1)))) then (some (IntKind.u64.wrap (shr .i64 (wrap64 (shl .u64 a0 (wrap64 (64 - (wrap64 (8 * a1)))))) (wrap64 (64 - (wrap64 (8 * a1))))))) else (none)) = some r := by rw [if_pos rfl] at H; exact H
          clear H
          have H := H1
          clear H1
          obtain ⟨ji9, hji9⟩ : ∃ j_ : Int, (wrap64 (64 - (wrap64 (8 * a1)))) = j_ := ⟨_, rfl⟩
          replace H : (if 0 ≤ (ji9) then (some (IntKind.u64.wrap (shr .i64 (wrap64 (shl .u64 a0 (ji9))) (ji9)))) else (none)) = some r := by first | (rw [hji9] at H; exact H) | (simp only [hji9] at H ⊢; exact H)
          have hji9w : (IntKind.i64.wrap (64 - (wrap64 (8 * a1)))) = ji9 := (i64_w _).trans hji9
          by_cases c10 : 0 ≤ (ji9)
          · rw [if_pos c10] at H
            have c10b0 := eq_true c10
            have c10b1 : decide (0 ≤ (ji9)) = true := decide_eq_true c10
            clear c10
            obtain ⟨ji11, hji11⟩ : ∃ j_ : Int, (shl .u64 a0 (ji9)) = j_ := ⟨_, rfl⟩
            replace H : (some (IntKind.u64.wrap (shr .i64 (wrap64 (ji11)) (ji9)))) = some r := by first | (rw [hji11] at H; exact H) | (simp only [hji11] at H ⊢; exact H)
            have hji11_ : (IntKind.u64.wrap (a0 * 2 ^ min (ji9).toNat 64)) = ji11 := hji11
            have hji11z : (ji9) ≤ 64 → (IntKind.u64.wrap (a0 * 2 ^ (ji9).toNat)) = ji11 := shl_small hji11
            have c12b0 := eq_true (of_decide_eq_true (by first | (with_reducible assumption) | assumption) : 0 ≤ (ji9))
            obtain ⟨ji13, hji13⟩ : ∃ j_ : Int, (shr .i64 (wrap64 (ji11)) (ji9)) = j_ := ⟨_, rfl⟩
            replace H : (some (IntKind.u64.wrap (ji13))) = some r := by first | (rw [hji13] at H; exact H) | (simp only [hji13] at H ⊢; exact H)
            have hji13_ : ((wrap64 (ji11)) / 2 ^ min (ji9).toNat 64) = ji13 := hji13
            have hji13z : (ji9) ≤ 64 → ((wrap64 (ji11)) / 2 ^ (ji9).toNat) = ji13 := shr_small hji13
            obtain rfl := Option.some.inj H
            go_wp2
            go_ret
            exact ⟨by first | rfl | (simp; done) | (simp only [← hji9, ← hji11, ← hji13] <;> (first | rfl | simp)) | (simp [*]; done), by repeat (first | exact Drawn0.refl _ | apply Drawn0.step)⟩
          · rw [if_neg c10] at H
            exact absurd H (by simp)
        · replace c8 := Bool.eq_false_iff.mpr c8
          subst c8
          have H1 : (if 0 ≤ (wrap64 (64 - (wrap64 (8 * a1)))) then (some (shr .u64 (shl .u64 a0 (wrap64 (64 - (wrap64 (8 * a1))))) (wrap64 (64 - (wrap64 (8 * a1)))))) else (none)) = some r := by rw [if_neg (show ¬ (false = true) by decide)] at H; exact H
          clear H
          have H := H1
          clear H1
          obtain ⟨ji14, hji14⟩ : ∃ j_ : Int, (wrap64 (64 - (wrap64 (8 * a1)))) = j_ := ⟨_, rfl⟩
          replace H : (if 0 ≤ (ji14) then (some (shr .u64 (shl .u64 a0 (ji14)) (ji14))) else (none)) = some r := by first | (rw [hji14] at H; exact H) | (simp only [hji14] at H ⊢; exact H)
          have hji14w : (IntKind.i64.wrap (64 - (wrap64 (8 * a1)))) = ji14 := (i64_w _).trans hji14
          by_cases c15 : 0 ≤ (ji14)
          · rw [if_pos c15] at H
            have c15b0 := eq_true c15
            have c15b1 : decide (0 ≤ (ji14)) = true := decide_eq_true c15
            clear c15
            obtain ⟨ji16, hji16⟩ : ∃ j_ : Int, (shl .u64 a0 (ji14)) = j_ := ⟨_, rfl⟩
            replace H : (some (shr .u64 (ji16) (ji14))) = some r := by first | (rw [hji16] at H; exact H) | (simp only [hji16] at H ⊢; exact H)
            have hji16_ : (IntKind.u64.wrap (a0 * 2 ^ min (ji14).toNat 64)) = ji16 := hji16
            have hji16z : (ji14) ≤ 64 → (IntKind.u64.wrap (a0 * 2 ^ (ji14).toNat)) = ji16 := shl_small hji16
            have c17b0 := eq_true (of_decide_eq_true (by first | (with_reducible assumption) | assumption) : 0 ≤ (ji14))
            obtain ⟨ji18, hji18⟩ : ∃ j_ : Int, (shr .u64 (ji16) (ji14)) = j_ := ⟨_, rfl⟩
            replace H : (some ji18) = some r := by first | (rw [hji18] at H; exact H) | (simp only [hji18] at H ⊢; exact H)
            have hji18_ : ((ji16) / 2 ^ min (ji14).toNat 64) = ji18 := hji18
            have hji18z : (ji14) ≤ 64 → ((ji16) / 2 ^ (ji14).toNat) = ji18 := shr_small hji18
            obtain rfl := Option.some.inj H
            go_wp2
            go_ret
            exact ⟨by first | rfl | (simp; done) | (simp only [← hji14, ← hji16, ← hji18] <;> (first | rfl | simp)) | (simp [*]; done), by repeat (first | exact Drawn0.refl _ | apply Drawn0.step)⟩
          · rw [if_neg c15] at H
            exact absurd H (by simp)

/-! ### citadelref01_Extend: function 21 -/
def citadelref01_Extend.j0 : Nat → Int → Bool → Int → Bool → Option (Int)
  | 0, _, _, _, _ => none
  | k + 1, x0, x2, x7, x20 => if x20 = true then (some x0) else (if 0 ≤ x7 then (if (shl .u64 1 x7) = 0 then (none) else (if x2 = true then (if 0 ≤ (IntKind.u64.wrap (x7 - 1)) then (if (Int.tmod x0 (shl .u64 1 x7)) ≥ (shl .u64 1 (IntKind.u64.wrap (x7 - 1))) then (some (IntKind.u64.wrap ((Int.tmod x0 (shl .u64 1 x7)) - (shl .u64 1 x7)))) else (some (Int.tmod x0 (shl .u64 1 x7)))) else (none)) else (some (Int.tmod x0 (shl .u64 1 x7))))) else (none))
def citadelref01_Extend.f (k : Nat) (a0 : Int) (a1 : Int) (a2 : Bool) : Option (Int) := if a1 = 1 then (citadelref01_Extend.j0 k a0 a2 (IntKind.u64.wrap (wrap64 (8 * a1))) false) else (if a1 = 2 then (citadelref01_Extend.j0 k a0 a2 (IntKind.u64.wrap (wrap64 (8 * a1))) false) else (citadelref01_Extend.j0 k a0 a2 (IntKind.u64.wrap (wrap64 (8 * a1))) (a1 != 4)))
theorem citadelref01_Extend.mono_l : ∀ k, (∀ y0 y1 y2 y3, LeO (citadelref01_Extend.j0 k y0 y1 y2 y3) (citadelref01_Extend.j0 (k + 1) y0 y1 y2 y3))
  | 0 => fun _ _ _ _ r h => by simp [citadelref01_Extend.j0] at h
  | k + 1 => by
    have ih0 := citadelref01_Extend.mono_l k
    · intro y0 y1 y2 y3
      unfold citadelref01_Extend.j0
      repeat' first
      | (with_reducible exact ih0 _ _ _ _)
      | (with_reducible exact LeO.refl _)
      | (with_reducible exact LeO.none _)
      | (with_reducible refine LeO.ite ?_ ?_)
      | (with_reducible refine LeO.bind ?_ (fun _ => ?_))
      | exact ih0 _ _ _ _
      | exact LeO.none _
      | refine LeO.ite ?_ ?_
      | refine LeO.bind ?_ (fun _ => ?_)
theorem citadelref01_Extend.mono : ∀ a0 a1 a2 k, LeO (citadelref01_Extend.f k a0 a1 a2) (citadelref01_Extend.f (k + 1) a0 a1 a2) := by
  intro a0 a1 a2 k
  have ih0 := citadelref01_Extend.mono_l k
  unfold citadelref01_Extend.f
  repeat' first
      | (with_reducible exact ih0 _ _ _ _)
      | (with_reducible exact LeO.refl _)
      | (with_reducible exact LeO.none _)
      | (with_reducible refine LeO.ite ?_ ?_)
      | (with_reducible refine LeO.bind ?_ (fun _ => ?_))
      | exact ih0 _ _ _ _
      | exact LeO.none _
      | refine LeO.ite ?_ ?_
      | refine LeO.bind ?_ (fun _ => ?_)
set_option maxHeartbeats 8000000 in
set_option maxRecDepth 100000 in
theorem citadelref01_Extend.calls (k : Nat) (a0 : Int) (a1 : Int) (a2 : Bool) (r : Int) (w : World) (h : citadelref01_Extend.f k a0 a1 a2 = some r) :
    Calls Try.prog 21 #[.int .u64 a0, .int .i64 a1, .bool a2] w fun e w' => e = .returned (.int .u64 r) ∧ Drawn0 w w' := by
  have H : (if a1 = 1 then (citadelref01_Extend.j0 k a0 a2 (IntKind.u64.wrap (wrap64 (8 * a1))) false) else (if a1 = 2 then (citadelref01_Extend.j0 k a0 a2 (IntKind.u64.wrap (wrap64 (8 * a1))) false) else (citadelref01_Extend.j0 k a0 a2 (IntKind.u64.wrap (wrap64 (8 * a1))) (a1 != 4)))) = some r := h
  clear h
  have HC4 := Aside0.mk H
  clear H
  go_enter Try.func21, Try.ntmps21
  go_upto_region 2 with (fail)
  go_cut [20] (fun v20 wc => ∃ (kq : Nat) (x20_3 : Bool), v20 = .bool x20_3 ∧ Aside0 (citadelref01_Extend.j0 kq a0 a2 (IntKind.u64.wrap (wrap64 (8 * a1))) x20_3 = some r) ∧ Aside0 (kq ≤ k) ∧ Drawn0 w wc)
  case first =>
    have H := HC4.out
    clear HC4
    by_cases c5 : a1 = 1
    · rw [if_pos c5] at H
      have c5b0 : (a1 == 1) = true := beq_iff_eq.mpr c5
      have c5b1 : (a1 != 1) = false := bne_eq_false_iff_eq.mpr c5
      clear c5
      (first | rw [c5b0] | (simp only [i64_w, i32_w]; rw [c5b0]) | skip)
      have H' := Aside0.mk H
      clear H
      go_wp2
      go_meet
      case rel => exact ⟨_, (false), (by first | rfl | (simp; done) | (simp [*]; done)), H', ⟨by first | omega | exact Nat.le_refl _⟩, by repeat (first | exact Drawn0.refl _ | apply Drawn0.step)⟩
    · rw [if_neg c5] at H
      have c5b0 : (a1 == 1) = false := beq_eq_false_iff_ne.mpr c5
      have c5b1 : (a1 != 1) = true := bne_iff_ne.mpr c5
      (first | rw [c5b0] | (simp only [i64_w, i32_w]; rw [c5b0]) | skip)
      by_cases c6 : a1 = 2
      · rw [if_pos c6] at H
        have c6b0 : (a1 == 2) = true := beq_iff_eq.mpr c6
        have c6b1 : (a1 != 2) = false := bne_eq_false_iff_eq.mpr c6
        clear c6
        have H' := Aside0.mk H
        clear H
        go_wp2
        go_meet
        case rel => exact ⟨_, (false), (by first | rfl | (simp; done) | (simp [*]; done)), H', ⟨by first | omega | exact Nat.le_refl _⟩, by repeat (first | exact Drawn0.refl _ | apply Drawn0.step)⟩
      · rw [if_neg c6] at H
        have c6b0 : (a1 == 2) = false := beq_eq_false_iff_ne.mpr c6
        have c6b1 : (a1 != 2) = true := bne_iff_ne.mpr c6
        have H' := Aside0.mk H
        clear H
        go_wp2
        go_meet
        case rel => exact ⟨_, ((a1 != 4)), (by first | rfl | (simp; done) | (simp [*]; done)), H', ⟨by first | omega | exact Nat.le_refl _⟩, by repeat (first | exact Drawn0.refl _ | apply Drawn0.step)⟩
  case rest =>
    clear HC4
    try clear c2
    try clear p2
    try clear c5
    try clear c5b0
    try clear c5b1
    try clear c6
    try clear c6b0
    try clear c6b1
    try clear p6
    obtain ⟨kq, x20_3, rfl, HA, HJ3, ⟨mc3, rfl⟩⟩ := hcut
    cases kq with
    | zero => exact absurd HA.out (by simp [citadelref01_Extend.j0])
    | succ kj3 =>
      have H := HA.out
      clear HA
      simp only [citadelref01_Extend.j0] at H
      by_cases c7 : x20_3 = true
      · subst c7
        have H1 : (some a0) = some r := by rw [if_pos rfl] at H; exact H
        clear H
        have H := H1
        clear H1
        obtain rfl := Option.some.inj H
        go_wp2
        go_ret
        exact ⟨by first | rfl | (simp; done) | (simp [*]; done), by repeat (first | exact Drawn0.refl _ | apply Drawn0.step)⟩
      · replace c7 := Bool.eq_false_iff.mpr c7
        subst c7
        have H1 : (if 0 ≤ (IntKind.u64.wrap (wrap64 (8 * a1))) then (if (shl .u64 1 (IntKind.u64.wrap (wrap64 (8 * a1)))) = 0 then (none) else (if a2 = true then (if 0 ≤ (IntKind.u64.wrap ((IntKind.u64.wrap (wrap64 (8 * a1))) - 1)) then (if (Int.tmod a0 (shl .u64 1 (IntKind.u64.wrap (wrap64 (8 * a1))))) ≥ (shl .u64 1 (IntKind.u64.wrap ((IntKind.u64.wrap (wrap64 (8 * a1))) - 1))) then (some (IntKind.u64.wrap ((Int.tmod a0 (shl .u64 1 (IntKind.u64.wrap (wrap64 (8 * a1))))) - (shl .u64 1 (IntKind.u64.wrap (wrap64 (8 * a1))))))) else (some (Int.tmod a0 (shl .u64 1 (IntKind.u64.wrap (wrap64 (8 * a1))))))) else (none)) else (some (Int.tmod a0 (shl .u64 1 (IntKind.u64.wrap (wrap64 (8 * a1)))))))) else (none)) = some r := by rw [if_neg (show ¬ (false = true) by decide)] at H; exact H
        clear H
        have H := H1
        clear H1
        obtain ⟨ji8, hji8⟩ : ∃ j_ : Int, (IntKind.u64.wrap (wrap64 (8 * a1))) = j_ := ⟨_, rfl⟩
        replace H : (if 0 ≤ (ji8) then (if (shl .u64 1 (ji8)) = 0 then (none) else (if a2 = true then (if 0 ≤ (IntKind.u64.wrap ((ji8) - 1)) then (if (Int.tmod a0 (shl .u64 1 (ji8))) ≥ (shl .u64 1 (IntKind.u64.wrap ((ji8) - 1))) then (some (IntKind.u64.wrap ((Int.tmod a0 (shl .u64 1 (ji8))) - (shl .u64 1 (ji8))))) else (some (Int.tmod a0 (shl .u64 1 (ji8))))) else (none)) else (some (Int.tmod a0 (shl .u64 1 (ji8)))))) else (none)) = some r := by first | (rw [hji8] at H; exact H) | (simp only [hji8] at H ⊢; exact H)
        by_cases c9 : 0 ≤ (ji8)
        · rw [if_pos c9] at H
          have c9b0 := eq_true c9
          have c9b1 : decide (0 ≤ (ji8)) = true := decide_eq_true c9
          clear c9
          obtain ⟨ji10, hji10⟩ : ∃ j_ : Int, (shl .u64 1 (ji8)) = j_ := ⟨_, rfl⟩
          replace H : (if (ji10) = 0 then (none) else (if a2 = true then (if 0 ≤ (IntKind.u64.wrap ((ji8) - 1)) then (if (Int.tmod a0 (ji10)) ≥ (shl .u64 1 (IntKind.u64.wrap ((ji8) - 1))) then (some (IntKind.u64.wrap ((Int.tmod a0 (ji10)) - (ji10)))) else (some (Int.tmod a0 (ji10)))) else (none)) else (some (Int.tmod a0 (ji10))))) = some r := by first | (rw [hji10] at H; exact H) | (simp only [hji10] at H ⊢; exact H)
          have hji10_ : (IntKind.u64.wrap (1 * 2 ^ min (ji8).toNat 64)) = ji10 := hji10
          have hji10z : (ji8) ≤ 64 → (IntKind.u64.wrap (1 * 2 ^ (ji8).toNat)) = ji10 := shl_small hji10
          have hji10u : (IntKind.u64.wrap (2 ^ min (ji8).toNat 64)) = ji10 := by have h_ := hji10_; rw [Int.one_mul] at h_; exact h_
          have hji10v : (ji8) ≤ 64 → (IntKind.u64.wrap (2 ^ (ji8).toNat)) = ji10 := fun hle_ => by have h_ := hji10z hle_; rw [Int.one_mul] at h_; exact h_
          by_cases c11 : (ji10) = 0
          · rw [if_pos c11] at H
            exact absurd H (by simp)
          · rw [if_neg c11] at H
            have c11b0 : ((ji10) == 0) = false := beq_eq_false_iff_ne.mpr c11
            have c11b1 : ((ji10) != 0) = true := bne_iff_ne.mpr c11
            by_cases c12 : a2 = true
            · subst c12
              have H1 : (if 0 ≤ (IntKind.u64.wrap ((ji8) - 1)) then (if (Int.tmod a0 (ji10)) ≥ (shl .u64 1 (IntKind.u64.wrap ((ji8) - 1))) then (some (IntKind.u64.wrap ((Int.tmod a0 (ji10)) - (ji10)))) else (some (Int.tmod a0 (ji10)))) else (none)) = some r := by rw [if_pos rfl] at H; exact H
              clear H
              have H := H1
              clear H1
              obtain ⟨ji13, hji13⟩ : ∃ j_ : Int, (IntKind.u64.wrap ((ji8) - 1)) = j_ := ⟨_, rfl⟩
              replace H : (if 0 ≤ (ji13) then (if (Int.tmod a0 (ji10)) ≥ (shl .u64 1 (ji13)) then (some (IntKind.u64.wrap ((Int.tmod a0 (ji10)) - (ji10)))) else (some (Int.tmod a0 (ji10)))) else (none)) = some r := by first | (rw [hji13] at H; exact H) | (simp only [hji13] at H ⊢; exact H)
              by_cases c14 : 0 ≤ (ji13)
              · rw [if_pos c14] at H
                have c14b0 := eq_true c14
                have c14b1 : decide (0 ≤ (ji13)) = true := decide_eq_true c14
                clear c14
                obtain ⟨ji15, hji15⟩ : ∃ j_ : Int, (shl .u64 1 (ji13)) = j_ := ⟨_, rfl⟩
                replace H : (if (Int.tmod a0 (ji10)) ≥ (ji15) then (some (IntKind.u64.wrap ((Int.tmod a0 (ji10)) - (ji10)))) else (some (Int.tmod a0 (ji10)))) = some r := by first | (rw [hji15] at H; exact H) | (simp only [hji15] at H ⊢; exact H)
                have hji15_ : (IntKind.u64.wrap (1 * 2 ^ min (ji13).toNat 64)) = ji15 := hji15
                have hji15z : (ji13) ≤ 64 → (IntKind.u64.wrap (1 * 2 ^ (ji13).toNat)) = ji15 := shl_small hji15
                have hji15u : (IntKind.u64.wrap (2 ^ min (ji13).toNat 64)) = ji15 := by have h_ := hji15_; rw [Int.one_mul] at h_; exact h_
                have hji15v : (ji13) ≤ 64 → (IntKind.u64.wrap (2 ^ (ji13).toNat)) = ji15 := fun hle_ => by have h_ := hji15z hle_; rw [Int.one_mul] at h_; exact h_
                by_cases c16 : (Int.tmod a0 (ji10)) ≥ (ji15)
                · rw [if_pos c16] at H
                  have c16b0 : decide ((ji15) ≤ (Int.tmod a0 (ji10))) = true := decide_eq_true c16
                  clear c16
                  have c17b0 := eq_true (of_decide_eq_true (by first | (with_reducible assumption) | assumption) : 0 ≤ (ji8))
                  obtain rfl := Option.some.inj H
                  go_wp2
                  go_ret
                  exact ⟨by first | rfl | (simp; done) | (simp only [← hji8, ← hji10, ← hji13, ← hji15] <;> (first | rfl | simp)) | (simp [*]; done), by repeat (first | exact Drawn0.refl _ | apply Drawn0.step)⟩
                · rw [if_neg c16] at H
                  have c16b0 : decide ((ji15) ≤ (Int.tmod a0 (ji10))) = false := decide_eq_false c16
                  clear c16
                  obtain rfl := Option.some.inj H
                  go_wp2
                  go_ret
                  exact ⟨by first | rfl | (simp; done) | (simp only [← hji8, ← hji10, ← hji13, ← hji15] <;> (first | rfl | simp)) | (simp [*]; done), by repeat (first | exact Drawn0.refl _ | apply Drawn0.step)⟩
              · rw [if_neg c14] at H
                exact absurd H (by simp)
            · replace c12 := Bool.eq_false_iff.mpr c12
              subst c12
              have H1 : (some (Int.tmod a0 (ji10))) = some r := by rw [if_neg (show ¬ (false = true) by decide)] at H; exact H
              clear H
              have H := H1
              clear H1
              obtain rfl := Option.some.inj H
              go_wp2
              go_ret
              exact ⟨by first | rfl | (simp; done) | (simp only [← hji8, ← hji10] <;> (first | rfl | simp)) | (simp [*]; done), by repeat (first | exact Drawn0.refl _ | apply Drawn0.step)⟩
        · rw [if_neg c9] at H
          exact absurd H (by simp)

/-! ### citadellaw01_WordExtends: function 9 -/
def citadellaw01_WordExtends.f (k : Nat) (a0 : Int) (a1 : Int) : Option (Bool) := (word_Extend.f k a0 a1 true).bind fun t272 => ((citadelref01_Extend.f k a0 a1 true).bind fun t273 => (if t272 = t273 then ((word_Extend.f k a0 a1 false).bind fun t274 => ((citadelref01_Extend.f k a0 a1 false).bind fun t275 => (if t274 = t275 then ((citadellaw01_awake.f).bind fun t276 => (some t276)) else (some false)))) else (some false)))
theorem citadellaw01_WordExtends.mono : ∀ a0 a1 k, LeO (citadellaw01_WordExtends.f k a0 a1) (citadellaw01_WordExtends.f (k + 1) a0 a1) := by
  intro a0 a1 k
  unfold citadellaw01_WordExtends.f
  repeat' first
      | (with_reducible exact citadelref01_Extend.mono _ _ _ _)
      | (with_reducible exact word_Extend.mono _ _ _ _)
      | (with_reducible exact LeO.refl _)
      | (with_reducible exact LeO.none _)
      | (with_reducible refine LeO.ite ?_ ?_)
      | (with_reducible refine LeO.bind ?_ (fun _ => ?_))
      | exact citadelref01_Extend.mono _ _ _ _
      | exact word_Extend.mono _ _ _ _
      | exact LeO.none _
      | refine LeO.ite ?_ ?_
      | refine LeO.bind ?_ (fun _ => ?_)
set_option maxHeartbeats 8000000 in
set_option maxRecDepth 100000 in
theorem citadellaw01_WordExtends.calls (k : Nat) (a0 : Int) (a1 : Int) (r : Bool) (w : World) (h : citadellaw01_WordExtends.f k a0 a1 = some r) :
    Calls Try.prog 9 #[.int .u64 a0, .int .i64 a1] w fun e w' => e = .returned (.bool r) ∧ Below w.heap.size w w' := by
  have HB := Aside0.mk (Below.refl w.heap.size w)
  have H : ((word_Extend.f k a0 a1 true).bind fun t272 => ((citadelref01_Extend.f k a0 a1 true).bind fun t273 => (if t272 = t273 then ((word_Extend.f k a0 a1 false).bind fun t274 => ((citadelref01_Extend.f k a0 a1 false).bind fun t275 => (if t274 = t275 then ((citadellaw01_awake.f).bind fun t276 => (some t276)) else (some false)))) else (some false)))) = some r := h
  clear h
  replace H := Option.bind_eq_some_iff.mp H
  obtain ⟨t272, A30, H⟩ := H
  replace H : ((citadelref01_Extend.f k a0 a1 true).bind fun t273 => (if t272 = t273 then ((word_Extend.f k a0 a1 false).bind fun t274 => ((citadelref01_Extend.f k a0 a1 false).bind fun t275 => (if t274 = t275 then ((citadellaw01_awake.f).bind fun t276 => (some t276)) else (some false)))) else (some false))) = some r := H
  have A3 := Aside0.mk A30
  clear A30
  replace H := Option.bind_eq_some_iff.mp H
  obtain ⟨t273, A40, H⟩ := H
  replace H : (if t272 = t273 then ((word_Extend.f k a0 a1 false).bind fun t274 => ((citadelref01_Extend.f k a0 a1 false).bind fun t275 => (if t274 = t275 then ((citadellaw01_awake.f).bind fun t276 => (some t276)) else (some false)))) else (some false)) = some r := H
  have A4 := Aside0.mk A40
  clear A40
  by_cases c5 : t272 = t273
  · rw [if_pos c5] at H
    have c5b0 : (t272 == t273) = true := beq_iff_eq.mpr c5
    have c5b1 : (t272 != t273) = false := bne_eq_false_iff_eq.mpr c5
    clear c5
    replace H := Option.bind_eq_some_iff.mp H
    obtain ⟨t274, A60, H⟩ := H
    replace H : ((citadelref01_Extend.f k a0 a1 false).bind fun t275 => (if t274 = t275 then ((citadellaw01_awake.f).bind fun t276 => (some t276)) else (some false))) = some r := H
    have A6 := Aside0.mk A60
    clear A60
    replace H := Option.bind_eq_some_iff.mp H
    obtain ⟨t275, A70, H⟩ := H
    replace H : (if t274 = t275 then ((citadellaw01_awake.f).bind fun t276 => (some t276)) else (some false)) = some r := H
    have A7 := Aside0.mk A70
    clear A70
    by_cases c8 : t274 = t275
    · rw [if_pos c8] at H
      have c8b0 : (t274 == t275) = true := beq_iff_eq.mpr c8
      have c8b1 : (t274 != t275) = false := bne_eq_false_iff_eq.mpr c8
      clear c8
      replace H := Option.bind_eq_some_iff.mp H
      obtain ⟨t276, A90, H⟩ := H
      replace H : (some t276) = some r := H
      have A9 := Aside0.mk A90
      clear A90
      obtain rfl := Option.some.inj H
      go_enter Try.func9, Try.ntmps9
      go_wp2_with (first | ((with_reducible refine gate_callee (f := 20) rfl ?_); refine goesL_ (some 7) rfl rfl Try.func20 (by kernel_rfl) rfl #[.int .u64 a0, .int .i64 a1, .bool true] rfl (by (try simp only [List.map_toArray, List.map_cons, List.map_nil]); first | done | rfl | (simp only [List.length_drop, List.length_take]; rfl)) ?_; (with_reducible refine (word_Extend.calls k a0 a1 true t272 _ A3.out).mono ?_); rintro e w' ⟨rfl, ⟨nd, rfl⟩⟩; refine ⟨_, rfl, ?_⟩) | ((with_reducible refine gate_callee (f := 21) rfl ?_); refine goesL_ (some 10) rfl rfl Try.func21 (by kernel_rfl) rfl #[.int .u64 a0, .int .i64 a1, .bool true] rfl (by (try simp only [List.map_toArray, List.map_cons, List.map_nil]); first | done | rfl | (simp only [List.length_drop, List.length_take]; rfl)) ?_; (with_reducible refine (citadelref01_Extend.calls k a0 a1 true t273 _ A4.out).mono ?_); rintro e w' ⟨rfl, ⟨nd, rfl⟩⟩; refine ⟨_, rfl, ?_⟩) | (go_at_call 20; (with_reducible refine (word_Extend.calls k a0 a1 false t274 _ A6.out).mono ?_); rintro e w' ⟨rfl, ⟨nd, rfl⟩⟩) | (go_at_call 21; (with_reducible refine (citadelref01_Extend.calls k a0 a1 false t275 _ A7.out).mono ?_); rintro e w' ⟨rfl, ⟨nd, rfl⟩⟩) | (go_at_call 17; (with_reducible refine (citadellaw01_awake.calls  t276 _ A9.out).mono ?_); rintro e w10 ⟨rfl, hb⟩; have n0_ := Aside0.mk (below_step (by repeat (first | (with_reducible first | exact HB.out | apply below_alloc | apply pw_below_drewN | apply below_drew1) | exact HB.out)) hb); clear HB; have HB := n0_; clear n0_; (try clear hb); (try clear hb2); (try clear hk); (try clear hi)))
      go_ret
      exact ⟨by first | rfl | (simp [errW_none, errW_some] <;> rfl) | (simp [*, errW_none, errW_some] <;> rfl), by repeat (first | (with_reducible first | exact HB.out | apply below_alloc | apply pw_below_drewN | apply below_drew1) | exact HB.out)⟩
    · rw [if_neg c8] at H
      have c8b0 : (t274 == t275) = false := beq_eq_false_iff_ne.mpr c8
      have c8b1 : (t274 != t275) = true := bne_iff_ne.mpr c8
      obtain rfl := Option.some.inj H
      go_enter Try.func9, Try.ntmps9
      go_wp2_with (first | ((with_reducible refine gate_callee (f := 20) rfl ?_); refine goesL_ (some 7) rfl rfl Try.func20 (by kernel_rfl) rfl #[.int .u64 a0, .int .i64 a1, .bool true] rfl (by (try simp only [List.map_toArray, List.map_cons, List.map_nil]); first | done | rfl | (simp only [List.length_drop, List.length_take]; rfl)) ?_; (with_reducible refine (word_Extend.calls k a0 a1 true t272 _ A3.out).mono ?_); rintro e w' ⟨rfl, ⟨nd, rfl⟩⟩; refine ⟨_, rfl, ?_⟩) | ((with_reducible refine gate_callee (f := 21) rfl ?_); refine goesL_ (some 10) rfl rfl Try.func21 (by kernel_rfl) rfl #[.int .u64 a0, .int .i64 a1, .bool true] rfl (by (try simp only [List.map_toArray, List.map_cons, List.map_nil]); first | done | rfl | (simp only [List.length_drop, List.length_take]; rfl)) ?_; (with_reducible refine (citadelref01_Extend.calls k a0 a1 true t273 _ A4.out).mono ?_); rintro e w' ⟨rfl, ⟨nd, rfl⟩⟩; refine ⟨_, rfl, ?_⟩) | (go_at_call 20; (with_reducible refine (word_Extend.calls k a0 a1 false t274 _ A6.out).mono ?_); rintro e w' ⟨rfl, ⟨nd, rfl⟩⟩) | (go_at_call 21; (with_reducible refine (citadelref01_Extend.calls k a0 a1 false t275 _ A7.out).mono ?_); rintro e w' ⟨rfl, ⟨nd, rfl⟩⟩))
      go_ret
      exact ⟨by first | rfl | (simp [errW_none, errW_some] <;> rfl) | (simp [*, errW_none, errW_some] <;> rfl), by repeat (first | (with_reducible first | exact HB.out | apply below_alloc | apply pw_below_drewN | apply below_drew1) | exact HB.out)⟩
  · rw [if_neg c5] at H
    have c5b0 : (t272 == t273) = false := beq_eq_false_iff_ne.mpr c5
    have c5b1 : (t272 != t273) = true := bne_iff_ne.mpr c5
    obtain rfl := Option.some.inj H
    go_enter Try.func9, Try.ntmps9
    go_wp2_with (first | ((with_reducible refine gate_callee (f := 20) rfl ?_); refine goesL_ (some 7) rfl rfl Try.func20 (by kernel_rfl) rfl #[.int .u64 a0, .int .i64 a1, .bool true] rfl (by (try simp only [List.map_toArray, List.map_cons, List.map_nil]); first | done | rfl | (simp only [List.length_drop, List.length_take]; rfl)) ?_; (with_reducible refine (word_Extend.calls k a0 a1 true t272 _ A3.out).mono ?_); rintro e w' ⟨rfl, ⟨nd, rfl⟩⟩; refine ⟨_, rfl, ?_⟩) | ((with_reducible refine gate_callee (f := 21) rfl ?_); refine goesL_ (some 10) rfl rfl Try.func21 (by kernel_rfl) rfl #[.int .u64 a0, .int .i64 a1, .bool true] rfl (by (try simp only [List.map_toArray, List.map_cons, List.map_nil]); first | done | rfl | (simp only [List.length_drop, List.length_take]; rfl)) ?_; (with_reducible refine (citadelref01_Extend.calls k a0 a1 true t273 _ A4.out).mono ?_); rintro e w' ⟨rfl, ⟨nd, rfl⟩⟩; refine ⟨_, rfl, ?_⟩))
    go_ret
    exact ⟨by first | rfl | (simp [errW_none, errW_some] <;> rfl) | (simp [*, errW_none, errW_some] <;> rfl), by repeat (first | (with_reducible first | exact HB.out | apply below_alloc | apply pw_below_drewN | apply below_drew1) | exact HB.out)⟩

/-- THE ONE PURE STATEMENT of citadellaw01_WordExtends: yours. -/
def citadellaw01_WordExtends.Pure : Prop := ∀ (a0 : Int) (a1 : Int), (Lit.int .u64 a0).wf = true → (Lit.int .i64 a1).wf = true → ∃ k, citadellaw01_WordExtends.f k a0 a1 = some true
theorem citadellaw01_WordExtends.walk (P : citadellaw01_WordExtends.Pure) (a0 : Int) (a1 : Int) (w : World) (w0 : (Lit.int .u64 a0).wf = true) (w1 : (Lit.int .i64 a1).wf = true) :
    Calls Try.prog 9 #[.int .u64 a0, .int .i64 a1] w fun e w' => e = .returned (.bool true) ∧ Below w.heap.size w w' := by
  obtain ⟨k, h⟩ := P a0 a1 w0 w1
  refine (citadellaw01_WordExtends.calls k a0 a1 true w h).mono ?_
  rintro e w' ⟨rfl, hd⟩
  exact ⟨rfl, hd⟩

/-! ### citadellaw01_WordHalves: function 10 -/
def citadellaw01_WordHalves.l0 : Nat → Int → Int → Int → Int → Int → Option (Bool)
  | 0, _, _, _, _, _ => none
  | k + 1, x0, x1, x2, x3, x9 => if x9 ≤ 28 then ((word_Alu.f x9 x0 x1).bind fun t278 => ((word_Alu.f x9 (IntKind.u64.wrap ((Int.tmod x0 4294967296) + (IntKind.u64.wrap (x2 * 4294967296)))) (IntKind.u64.wrap ((Int.tmod x1 4294967296) + (IntKind.u64.wrap (x3 * 4294967296))))).bind fun t279 => (if t278 = t279 then ((word_Extend.f k t278 4 true).bind fun t280 => (if t278 = t280 then (citadellaw01_WordHalves.l0 k x0 x1 x2 x3 (wrap64 (x9 + 1))) else (some false))) else (some false)))) else ((citadellaw01_awake.f).bind fun t277 => (some t277))
def citadellaw01_WordHalves.f (k : Nat) (a0 : Int) (a1 : Int) (a2 : Int) (a3 : Int) : Option (Bool) := citadellaw01_WordHalves.l0 k a0 a1 a2 a3 19
theorem citadellaw01_WordHalves.mono_l : ∀ k, (∀ y0 y1 y2 y3 y4, LeO (citadellaw01_WordHalves.l0 k y0 y1 y2 y3 y4) (citadellaw01_WordHalves.l0 (k + 1) y0 y1 y2 y3 y4))
  | 0 => fun _ _ _ _ _ r h => by simp [citadellaw01_WordHalves.l0] at h
  | k + 1 => by
    have ih0 := citadellaw01_WordHalves.mono_l k
    · intro y0 y1 y2 y3 y4
      unfold citadellaw01_WordHalves.l0
      repeat' first
      | (with_reducible exact ih0 _ _ _ _ _)
      | (with_reducible exact word_Extend.mono _ _ _ _)
      | (with_reducible exact LeO.refl _)
      | (with_reducible exact LeO.none _)
      | (with_reducible refine LeO.ite ?_ ?_)
      | (with_reducible refine LeO.bind ?_ (fun _ => ?_))
      | exact ih0 _ _ _ _ _
      | exact word_Extend.mono _ _ _ _
      | exact LeO.none _
      | refine LeO.ite ?_ ?_
      | refine LeO.bind ?_ (fun _ => ?_)
theorem citadellaw01_WordHalves.mono : ∀ a0 a1 a2 a3 k, LeO (citadellaw01_WordHalves.f k a0 a1 a2 a3) (citadellaw01_WordHalves.f (k + 1) a0 a1 a2 a3) := by
  intro a0 a1 a2 a3 k
  have ih0 := citadellaw01_WordHalves.mono_l k
  unfold citadellaw01_WordHalves.f
  repeat' first
      | (with_reducible exact ih0 _ _ _ _ _)
      | (with_reducible exact word_Extend.mono _ _ _ _)
      | (with_reducible exact LeO.refl _)
      | (with_reducible exact LeO.none _)
      | (with_reducible refine LeO.ite ?_ ?_)
      | (with_reducible refine LeO.bind ?_ (fun _ => ?_))
      | exact ih0 _ _ _ _ _
      | exact word_Extend.mono _ _ _ _
      | exact LeO.none _
      | refine LeO.ite ?_ ?_
      | refine LeO.bind ?_ (fun _ => ?_)
set_option maxHeartbeats 8000000 in
set_option maxRecDepth 100000 in
theorem citadellaw01_WordHalves.calls (k : Nat) (a0 : Int) (a1 : Int) (a2 : Int) (a3 : Int) (r : Bool) (w : World) (h : citadellaw01_WordHalves.f k a0 a1 a2 a3 = some r) :
    Calls Try.prog 10 #[.int .u64 a0, .int .u64 a1, .int .u64 a2, .int .u64 a3] w fun e w' => e = .returned (.bool r) ∧ Below w.heap.size w w' := by
  have HB := Aside0.mk (Below.refl w.heap.size w)
  have H : (citadellaw01_WordHalves.l0 k a0 a1 a2 a3 19) = some r := h
  clear h
  have H' := Aside0.mk H
  clear H
  go_enter Try.func10, Try.ntmps10
  go_wp2
  go_loopg [9] k (fun kq v9 w' => ∃ (x9_1 : Int), v9 = .int .i64 x9_1 ∧ Aside0 (citadellaw01_WordHalves.l0 kq a0 a1 a2 a3 x9_1 = some r) ∧ Aside0 (kq ≤ k) ∧ Aside0 (Below w.heap.size w w'))
  case atStart => exact ⟨(19), (by first | rfl | (simp; done) | (simp [*]; done)), H', ⟨Nat.le_refl _⟩, ⟨by repeat (first | (with_reducible first | exact HB.out | apply below_alloc | apply pw_below_drewN | apply below_drew1) | exact HB.out)⟩⟩
  case round =>
    clear H'
    try clear c1
    try clear p2
    obtain ⟨x9_1, rfl, HA, HK1, HB⟩ := hrel
    cases gk with
    | zero => exact absurd HA.out (by simp [citadellaw01_WordHalves.l0])
    | succ k1 =>
      have H := HA.out
      clear HA
      simp only [citadellaw01_WordHalves.l0] at H
      by_cases c5 : x9_1 ≤ 28
      · rw [if_pos c5] at H
        have c5b0 : decide (x9_1 ≤ 28) = true := decide_eq_true c5
        clear c5
        replace H := Option.bind_eq_some_iff.mp H
        obtain ⟨t278, A60, H⟩ := H
        replace H : ((word_Alu.f x9_1 (IntKind.u64.wrap ((Int.tmod a0 4294967296) + (IntKind.u64.wrap (a2 * 4294967296)))) (IntKind.u64.wrap ((Int.tmod a1 4294967296) + (IntKind.u64.wrap (a3 * 4294967296))))).bind fun t279 => (if t278 = t279 then ((word_Extend.f k1 t278 4 true).bind fun t280 => (if t278 = t280 then (citadellaw01_WordHalves.l0 k1 a0 a1 a2 a3 (wrap64 (x9_1 + 1))) else (some false))) else (some false))) = some r := H
        have A6 := Aside0.mk A60
        clear A60
        replace H := Option.bind_eq_some_iff.mp H
        obtain ⟨t279, A70, H⟩ := H
        replace H : (if t278 = t279 then ((word_Extend.f k1 t278 4 true).bind fun t280 => (if t278 = t280 then (citadellaw01_WordHalves.l0 k1 a0 a1 a2 a3 (wrap64 (x9_1 + 1))) else (some false))) else (some false)) = some r := H
        have A7 := Aside0.mk A70
        clear A70
        by_cases c8 : t278 = t279
        · rw [if_pos c8] at H
          have c8b0 : (t278 == t279) = true := beq_iff_eq.mpr c8
          have c8b1 : (t278 != t279) = false := bne_eq_false_iff_eq.mpr c8
          clear c8
          replace H := Option.bind_eq_some_iff.mp H
          obtain ⟨t280, A90, H⟩ := H
          replace H : (if t278 = t280 then (citadellaw01_WordHalves.l0 k1 a0 a1 a2 a3 (wrap64 (x9_1 + 1))) else (some false)) = some r := H
          have A9 := Aside0.mk A90
          clear A90
          by_cases c10 : t278 = t280
          · rw [if_pos c10] at H
            have c10b0 : (t278 == t280) = true := beq_iff_eq.mpr c10
            have c10b1 : (t278 != t280) = false := bne_eq_false_iff_eq.mpr c10
            clear c10
            have H' := Aside0.mk H
            clear H
            go_wp2_with (first | ((with_reducible refine gate_callee (f := 15) rfl ?_); refine goesL_ (some 18) rfl rfl Try.func15 (by kernel_rfl) rfl #[.int .i64 x9_1, .int .u64 a0, .int .u64 a1] rfl (by (try simp only [List.map_toArray, List.map_cons, List.map_nil]); first | done | rfl | (simp only [List.length_drop, List.length_take]; rfl)) ?_; (with_reducible refine (word_Alu.calls x9_1 a0 a1 t278 _ A6.out).mono ?_); rintro e w11 ⟨rfl, hb⟩; refine ⟨_, rfl, ?_⟩; have n0_ := Aside0.mk (below_step (by repeat (first | (with_reducible first | exact HB.out | apply below_alloc | apply pw_below_drewN | apply below_drew1) | exact HB.out)) hb); clear HB; have HB := n0_; clear n0_; (try clear hb); (try clear hb2); (try clear hk); (try clear hi)) | ((with_reducible refine gate_callee (f := 15) rfl ?_); refine goesL_ (some 31) rfl rfl Try.func15 (by kernel_rfl) rfl #[.int .i64 x9_1, .int .u64 (IntKind.u64.wrap ((Int.tmod a0 4294967296) + (IntKind.u64.wrap (a2 * 4294967296)))), .int .u64 (IntKind.u64.wrap ((Int.tmod a1 4294967296) + (IntKind.u64.wrap (a3 * 4294967296))))] rfl (by (try simp only [List.map_toArray, List.map_cons, List.map_nil]); first | done | rfl | (simp only [List.length_drop, List.length_take]; rfl)) ?_; (with_reducible refine (word_Alu.calls x9_1 (IntKind.u64.wrap ((Int.tmod a0 4294967296) + (IntKind.u64.wrap (a2 * 4294967296)))) (IntKind.u64.wrap ((Int.tmod a1 4294967296) + (IntKind.u64.wrap (a3 * 4294967296)))) t279 _ A7.out).mono ?_); rintro e w12 ⟨rfl, hb⟩; refine ⟨_, rfl, ?_⟩; have n0_ := Aside0.mk (below_step (by repeat (first | (with_reducible first | exact HB.out | apply below_alloc | apply pw_below_drewN | apply below_drew1) | exact HB.out)) hb); clear HB; have HB := n0_; clear n0_; (try clear hb); (try clear hb2); (try clear hk); (try clear hi)) | (go_at_call 20; (with_reducible refine (word_Extend.calls k1 t278 4 true t280 _ A9.out).mono ?_); rintro e w' ⟨rfl, ⟨nd, rfl⟩⟩))
            go_roundg k1
            case measure => have := HK1.out; omega
            case rel => exact ⟨(wrap64 (x9_1 + 1)), (by first | rfl | (simp; done) | (simp [*]; done)), H', ⟨by have := HK1.out; omega⟩, ⟨by repeat (first | (with_reducible first | exact HB.out | apply below_alloc | apply pw_below_drewN | apply below_drew1) | exact HB.out)⟩⟩
          · rw [if_neg c10] at H
            have c10b0 : (t278 == t280) = false := beq_eq_false_iff_ne.mpr c10
            have c10b1 : (t278 != t280) = true := bne_iff_ne.mpr c10
            obtain rfl := Option.some.inj H
            go_wp2_with (first | ((with_reducible refine gate_callee (f := 15) rfl ?_); refine goesL_ (some 18) rfl rfl Try.func15 (by kernel_rfl) rfl #[.int .i64 x9_1, .int .u64 a0, .int .u64 a1] rfl (by (try simp only [List.map_toArray, List.map_cons, List.map_nil]); first | done | rfl | (simp only [List.length_drop, List.length_take]; rfl)) ?_; (with_reducible refine (word_Alu.calls x9_1 a0 a1 t278 _ A6.out).mono ?_); rintro e w13 ⟨rfl, hb⟩; refine ⟨_, rfl, ?_⟩; have n0_ := Aside0.mk (below_step (by repeat (first | (with_reducible first | exact HB.out | apply below_alloc | apply pw_below_drewN | apply below_drew1) | exact HB.out)) hb); clear HB; have HB := n0_; clear n0_; (try clear hb); (try clear hb2); (try clear hk); (try clear hi)) | ((with_reducible refine gate_callee (f := 15) rfl ?_); refine goesL_ (some 31) rfl rfl Try.func15 (by kernel_rfl) rfl #[.int .i64 x9_1, .int .u64 (IntKind.u64.wrap ((Int.tmod a0 4294967296) + (IntKind.u64.wrap (a2 * 4294967296)))), .int .u64 (IntKind.u64.wrap ((Int.tmod a1 4294967296) + (IntKind.u64.wrap (a3 * 4294967296))))] rfl (by (try simp only [List.map_toArray, List.map_cons, List.map_nil]); first | done | rfl | (simp only [List.length_drop, List.length_take]; rfl)) ?_; (with_reducible refine (word_Alu.calls x9_1 (IntKind.u64.wrap ((Int.tmod a0 4294967296) + (IntKind.u64.wrap (a2 * 4294967296)))) (IntKind.u64.wrap ((Int.tmod a1 4294967296) + (IntKind.u64.wrap (a3 * 4294967296)))) t279 _ A7.out).mono ?_); rintro e w14 ⟨rfl, hb⟩; refine ⟨_, rfl, ?_⟩; have n0_ := Aside0.mk (below_step (by repeat (first | (with_reducible first | exact HB.out | apply below_alloc | apply pw_below_drewN | apply below_drew1) | exact HB.out)) hb); clear HB; have HB := n0_; clear n0_; (try clear hb); (try clear hb2); (try clear hk); (try clear hi)) | (go_at_call 20; (with_reducible refine (word_Extend.calls k1 t278 4 true t280 _ A9.out).mono ?_); rintro e w' ⟨rfl, ⟨nd, rfl⟩⟩))
            go_ret
            exact ⟨by first | rfl | (simp [errW_none, errW_some] <;> rfl) | (simp [*, errW_none, errW_some] <;> rfl), by repeat (first | (with_reducible first | exact HB.out | apply below_alloc | apply pw_below_drewN | apply below_drew1) | exact HB.out)⟩
        · rw [if_neg c8] at H
          have c8b0 : (t278 == t279) = false := beq_eq_false_iff_ne.mpr c8
          have c8b1 : (t278 != t279) = true := bne_iff_ne.mpr c8
          obtain rfl := Option.some.inj H
          go_wp2_with (first | ((with_reducible refine gate_callee (f := 15) rfl ?_); refine goesL_ (some 18) rfl rfl Try.func15 (by kernel_rfl) rfl #[.int .i64 x9_1, .int .u64 a0, .int .u64 a1] rfl (by (try simp only [List.map_toArray, List.map_cons, List.map_nil]); first | done | rfl | (simp only [List.length_drop, List.length_take]; rfl)) ?_; (with_reducible refine (word_Alu.calls x9_1 a0 a1 t278 _ A6.out).mono ?_); rintro e w15 ⟨rfl, hb⟩; refine ⟨_, rfl, ?_⟩; have n0_ := Aside0.mk (below_step (by repeat (first | (with_reducible first | exact HB.out | apply below_alloc | apply pw_below_drewN | apply below_drew1) | exact HB.out)) hb); clear HB; have HB := n0_; clear n0_; (try clear hb); (try clear hb2); (try clear hk); (try clear hi)) | ((with_reducible refine gate_callee (f := 15) rfl ?_); refine goesL_ (some 31) rfl rfl Try.func15 (by kernel_rfl) rfl #[.int .i64 x9_1, .int .u64 (IntKind.u64.wrap ((Int.tmod a0 4294967296) + (IntKind.u64.wrap (a2 * 4294967296)))), .int .u64 (IntKind.u64.wrap ((Int.tmod a1 4294967296) + (IntKind.u64.wrap (a3 * 4294967296))))] rfl (by (try simp only [List.map_toArray, List.map_cons, List.map_nil]); first | done | rfl | (simp only [List.length_drop, List.length_take]; rfl)) ?_; (with_reducible refine (word_Alu.calls x9_1 (IntKind.u64.wrap ((Int.tmod a0 4294967296) + (IntKind.u64.wrap (a2 * 4294967296)))) (IntKind.u64.wrap ((Int.tmod a1 4294967296) + (IntKind.u64.wrap (a3 * 4294967296)))) t279 _ A7.out).mono ?_); rintro e w16 ⟨rfl, hb⟩; refine ⟨_, rfl, ?_⟩; have n0_ := Aside0.mk (below_step (by repeat (first | (with_reducible first | exact HB.out | apply below_alloc | apply pw_below_drewN | apply below_drew1) | exact HB.out)) hb); clear HB; have HB := n0_; clear n0_; (try clear hb); (try clear hb2); (try clear hk); (try clear hi)))
          go_ret
          exact ⟨by first | rfl | (simp [errW_none, errW_some] <;> rfl) | (simp [*, errW_none, errW_some] <;> rfl), by repeat (first | (with_reducible first | exact HB.out | apply below_alloc | apply pw_below_drewN | apply below_drew1) | exact HB.out)⟩
      · rw [if_neg c5] at H
        have c5b0 : decide (x9_1 ≤ 28) = false := decide_eq_false c5
        clear c5
        replace H := Option.bind_eq_some_iff.mp H
        obtain ⟨t277, A170, H⟩ := H
        replace H : (some t277) = some r := H
        have A17 := Aside0.mk A170
        clear A170
        obtain rfl := Option.some.inj H
        go_wp2_with (first | ((with_reducible refine gate_callee (f := 17) rfl ?_); refine goesL_ (some 39) rfl rfl Try.func17 (by kernel_rfl) rfl #[] rfl (by (try simp only [List.map_toArray, List.map_cons, List.map_nil]); first | done | rfl | (simp only [List.length_drop, List.length_take]; rfl)) ?_; (with_reducible refine (citadellaw01_awake.calls  t277 _ A17.out).mono ?_); rintro e w18 ⟨rfl, hb⟩; refine ⟨_, rfl, ?_⟩; have n0_ := Aside0.mk (below_step (by repeat (first | (with_reducible first | exact HB.out | apply below_alloc | apply pw_below_drewN | apply below_drew1) | exact HB.out)) hb); clear HB; have HB := n0_; clear n0_; (try clear hb); (try clear hb2); (try clear hk); (try clear hi)))
        go_ret
        exact ⟨by first | rfl | (simp [errW_none, errW_some] <;> rfl) | (simp [*, errW_none, errW_some] <;> rfl), by repeat (first | (with_reducible first | exact HB.out | apply below_alloc | apply pw_below_drewN | apply below_drew1) | exact HB.out)⟩

/-- THE ONE PURE STATEMENT of citadellaw01_WordHalves: yours. -/
def citadellaw01_WordHalves.Pure : Prop := ∀ (a0 : Int) (a1 : Int) (a2 : Int) (a3 : Int), (Lit.int .u64 a0).wf = true → (Lit.int .u64 a1).wf = true → (Lit.int .u64 a2).wf = true → (Lit.int .u64 a3).wf = true → ∃ k, citadellaw01_WordHalves.f k a0 a1 a2 a3 = some true
theorem citadellaw01_WordHalves.walk (P : citadellaw01_WordHalves.Pure) (a0 : Int) (a1 : Int) (a2 : Int) (a3 : Int) (w : World) (w0 : (Lit.int .u64 a0).wf = true) (w1 : (Lit.int .u64 a1).wf = true) (w2 : (Lit.int .u64 a2).wf = true) (w3 : (Lit.int .u64 a3).wf = true) :
    Calls Try.prog 10 #[.int .u64 a0, .int .u64 a1, .int .u64 a2, .int .u64 a3] w fun e w' => e = .returned (.bool true) ∧ Below w.heap.size w w' := by
  obtain ⟨k, h⟩ := P a0 a1 a2 a3 w0 w1 w2 w3
  refine (citadellaw01_WordHalves.calls k a0 a1 a2 a3 true w h).mono ?_
  rintro e w' ⟨rfl, hd⟩
  exact ⟨rfl, hd⟩

end Go.Proofs.Ytmfbijfghonnjaa.PA
