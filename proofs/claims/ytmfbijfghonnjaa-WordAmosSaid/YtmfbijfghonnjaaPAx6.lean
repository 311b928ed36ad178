/- What the program's functions answer, call by call, and the row of a law; no conditions beyond each theorem's own. Written by a program of this repo (xprint.py, over the kit's printer, with contracts of the session's own). Lean checks it. -/
import Derived.Test.YtmfbijfghonnjaaPAx0
import Derived.Test.YtmfbijfghonnjaaPAx2
import Derived.Test.YtmfbijfghonnjaaPAx4
namespace Go.Proofs.Ytmfbijfghonnjaa.PA
open Go.RowKit Go.Proofs.YtmfbijfghonnjaaW.PrintWords Go.Proofs.YtmfbijfghonnjaaW.PrintLast Go.Proofs.YtmfbijfghonnjaaW.PrintMore
attribute [local go_sem] max2_int min2_int max_two min_two max_three min_three max_four min_four   -- for this text's walks alone
set_option linter.unusedVariables false
set_option linter.unusedSimpArgs false

/-! ### citadellaw01_WordDivides: function 6 -/
def citadellaw01_WordDivides.j0 : Nat → Int → Int → Bool → Option (Bool)
  | 0, _, _, _ => none
  | k + 1, x0, x1, x66 => if x66 = true then (some false) else (if ((x1) % 4294967296) = 0 then ((citadellaw01_awake.f).bind fun t243 => (some t243)) else ((word_Alu.f 25 x0 x1).bind fun t244 => ((word_Alu.f 27 x0 x1).bind fun t245 => ((word_Alu.f 26 x0 x1).bind fun t246 => ((word_Alu.f 28 x0 x1).bind fun t247 => (if ((((((t244) % 4294967296) * ((x1) % 4294967296)) % 4294967296) + ((t245) % 4294967296)) % 4294967296) = ((x0) % 4294967296) then (if ((((((t246) % 4294967296) * ((x1) % 4294967296)) % 4294967296) + ((t247) % 4294967296)) % 4294967296) = ((x0) % 4294967296) then ((citadellaw01_awake.f).bind fun t248 => (some t248)) else (some false)) else (some false)))))))
def citadellaw01_WordDivides.f (k : Nat) (a0 : Int) (a1 : Int) : Option (Bool) := if a1 = 0 then ((word_Alu.f 15 a0 a1).bind fun t233 => (if t233 = 18446744073709551615 then ((word_Alu.f 16 a0 a1).bind fun t234 => (if t234 = 18446744073709551615 then ((word_Alu.f 17 a0 a1).bind fun t235 => (if t235 = a0 then ((word_Alu.f 18 a0 a1).bind fun t236 => (if t236 = a0 then ((citadellaw01_awake.f).bind fun t237 => (some t237)) else (some false))) else (some false))) else (some false))) else (some false))) else ((word_Alu.f 15 a0 a1).bind fun t238 => ((word_Alu.f 17 a0 a1).bind fun t239 => (if (IntKind.u64.wrap ((IntKind.u64.wrap (t238 * a1)) + t239)) = a0 then ((word_Alu.f 16 a0 a1).bind fun t240 => ((word_Alu.f 18 a0 a1).bind fun t241 => (if (IntKind.u64.wrap ((IntKind.u64.wrap (t240 * a1)) + t241)) = a0 then ((word_Alu.f 18 a0 a1).bind fun t242 => (citadellaw01_WordDivides.j0 k a0 a1 (decide (t242 ≥ a1)))) else (citadellaw01_WordDivides.j0 k a0 a1 true)))) else (citadellaw01_WordDivides.j0 k a0 a1 true))))
theorem citadellaw01_WordDivides.mono_l : ∀ k, (∀ y0 y1 y2, LeO (citadellaw01_WordDivides.j0 k y0 y1 y2) (citadellaw01_WordDivides.j0 (k + 1) y0 y1 y2))
  | 0 => fun _ _ _ r h => by simp [citadellaw01_WordDivides.j0] at h
  | k + 1 => by
    have ih0 := citadellaw01_WordDivides.mono_l k
    · intro y0 y1 y2
      unfold citadellaw01_WordDivides.j0
      repeat' first
      | (with_reducible exact ih0 _ _ _)
      | (with_reducible exact LeO.refl _)
      | (with_reducible exact LeO.none _)
      | (with_reducible refine LeO.ite ?_ ?_)
      | (with_reducible refine LeO.bind ?_ (fun _ => ?_))
      | exact ih0 _ _ _
      | exact LeO.none _
      | refine LeO.ite ?_ ?_
      | refine LeO.bind ?_ (fun _ => ?_)
theorem citadellaw01_WordDivides.mono : ∀ a0 a1 k, LeO (citadellaw01_WordDivides.f k a0 a1) (citadellaw01_WordDivides.f (k + 1) a0 a1) := by
  intro a0 a1 k
  have ih0 := citadellaw01_WordDivides.mono_l k
  unfold citadellaw01_WordDivides.f
  repeat' first
      | (with_reducible exact ih0 _ _ _)
      | (with_reducible exact LeO.refl _)
      | (with_reducible exact LeO.none _)
      | (with_reducible refine LeO.ite ?_ ?_)
      | (with_reducible refine LeO.bind ?_ (fun _ => ?_))
      | exact ih0 _ _ _
      | exact LeO.none _
      | refine LeO.ite ?_ ?_
      | refine LeO.bind ?_ (fun _ => ?_)
set_option maxHeartbeats 8000000 in
set_option maxRecDepth 100000 in
theorem citadellaw01_WordDivides.calls (k : Nat) (a0 : Int) (a1 : Int) (r : Bool) (w : World) (h : citadellaw01_WordDivides.f k a0 a1 = some r) :
    Calls Try.prog 6 #[.int .u64 a0, .int .u64 a1] w fun e w' => e = .returned (.bool r) ∧ Below w.heap.size w w' := by
  have HB := Aside0.mk (Below.refl w.heap.size w)
  have H : (if a1 = 0 then ((word_Alu.f 15 a0 a1).bind fun t233 => (if t233 = 18446744073709551615 then ((word_Alu.f 16 a0 a1).bind fun t234 => (if t234 = 18446744073709551615 then ((word_Alu.f 17 a0 a1).bind fun t235 => (if t235 = a0 then ((word_Alu.f 18 a0 a1).bind fun t236 => (if t236 = a0 then ((citadellaw01_awake.f).bind fun t237 => (some t237)) else (some false))) else (some false))) else (some false))) else (some false))) else ((word_Alu.f 15 a0 a1).bind fun t238 => ((word_Alu.f 17 a0 a1).bind fun t239 => (if (IntKind.u64.wrap ((IntKind.u64.wrap (t238 * a1)) + t239)) = a0 then ((word_Alu.f 16 a0 a1).bind fun t240 => ((word_Alu.f 18 a0 a1).bind fun t241 => (if (IntKind.u64.wrap ((IntKind.u64.wrap (t240 * a1)) + t241)) = a0 then ((word_Alu.f 18 a0 a1).bind fun t242 => (citadellaw01_WordDivides.j0 k a0 a1 (decide (t242 ≥ a1)))) else (citadellaw01_WordDivides.j0 k a0 a1 true)))) else (citadellaw01_WordDivides.j0 k a0 a1 true))))) = some r := h
  clear h
  by_cases c3 : a1 = 0
  · rw [if_pos c3] at H
    have c3b0 : (a1 == 0) = true := beq_iff_eq.mpr c3
    have c3b1 : (a1 != 0) = false := bne_eq_false_iff_eq.mpr c3
    clear c3
    (try simp only [Int.emod_add_emod, Int.add_emod_emod] at c3b0 c3b1)
    replace H := Option.bind_eq_some_iff.mp H
    obtain ⟨t233, A40, H⟩ := H
    replace H : (if t233 = 18446744073709551615 then ((word_Alu.f 16 a0 a1).bind fun t234 => (if t234 = 18446744073709551615 then ((word_Alu.f 17 a0 a1).bind fun t235 => (if t235 = a0 then ((word_Alu.f 18 a0 a1).bind fun t236 => (if t236 = a0 then ((citadellaw01_awake.f).bind fun t237 => (some t237)) else (some false))) else (some false))) else (some false))) else (some false)) = some r := H
    have A4 := Aside0.mk A40
    clear A40
    by_cases c5 : t233 = 18446744073709551615
    · rw [if_pos c5] at H
      have c5b0 : (t233 == 18446744073709551615) = true := beq_iff_eq.mpr c5
      have c5b1 : (t233 != 18446744073709551615) = false := bne_eq_false_iff_eq.mpr c5
      clear c5
      (try simp only [Int.emod_add_emod, Int.add_emod_emod] at c5b0 c5b1)
      replace H := Option.bind_eq_some_iff.mp H
      obtain ⟨t234, A60, H⟩ := H
      replace H : (if t234 = 18446744073709551615 then ((word_Alu.f 17 a0 a1).bind fun t235 => (if t235 = a0 then ((word_Alu.f 18 a0 a1).bind fun t236 => (if t236 = a0 then ((citadellaw01_awake.f).bind fun t237 => (some t237)) else (some false))) else (some false))) else (some false)) = some r := H
      have A6 := Aside0.mk A60
      clear A60
      by_cases c7 : t234 = 18446744073709551615
      · rw [if_pos c7] at H
        have c7b0 : (t234 == 18446744073709551615) = true := beq_iff_eq.mpr c7
        have c7b1 : (t234 != 18446744073709551615) = false := bne_eq_false_iff_eq.mpr c7
        clear c7
        (try simp only [Int.emod_add_emod, Int.add_emod_emod] at c7b0 c7b1)
        replace H := Option.bind_eq_some_iff.mp H
        obtain ⟨t235, A80, H⟩ := H
        replace H : (if t235 = a0 then ((word_Alu.f 18 a0 a1).bind fun t236 => (if t236 = a0 then ((citadellaw01_awake.f).bind fun t237 => (some t237)) else (some false))) else (some false)) = some r := H
        have A8 := Aside0.mk A80
        clear A80
        by_cases c9 : t235 = a0
        · rw [if_pos c9] at H
          have c9b0 : (t235 == a0) = true := beq_iff_eq.mpr c9
          have c9b1 : (t235 != a0) = false := bne_eq_false_iff_eq.mpr c9
          clear c9
          (try simp only [Int.emod_add_emod, Int.add_emod_emod] at c9b0 c9b1)
          replace H := Option.bind_eq_some_iff.mp H
          obtain ⟨t236, A100, H⟩ := H
          replace H : (if t236 = a0 then ((citadellaw01_awake.f).bind fun t237 => (some t237)) else (some false)) = some r := H
          have A10 := Aside0.mk A100
          clear A100
          by_cases c11 : t236 = a0
          · rw [if_pos c11] at H
            have c11b0 : (t236 == a0) = true := beq_iff_eq.mpr c11
            have c11b1 : (t236 != a0) = false := bne_eq_false_iff_eq.mpr c11
            clear c11
            (try simp only [Int.emod_add_emod, Int.add_emod_emod] at c11b0 c11b1)
            replace H := Option.bind_eq_some_iff.mp H
            obtain ⟨t237, A120, H⟩ := H
            replace H : (some t237) = some r := H
            have A12 := Aside0.mk A120
            clear A120
            obtain rfl := Option.some.inj H
            go_enter Try.func6, Try.ntmps6
            go_wp2_with (first | ((with_reducible refine gate_callee (f := 15) rfl ?_); refine goesL_ (some 11) rfl rfl Try.func15 (by kernel_rfl) rfl #[.int .i64 15, .int .u64 a0, .int .u64 a1] rfl (by (try simp only [List.map_toArray, List.map_cons, List.map_nil]); first | done | rfl | (simp only [List.length_drop, List.length_take]; rfl)) ?_; (with_reducible refine (word_Alu.calls 15 a0 a1 t233 _ A4.out).mono ?_); rintro e w13 ⟨rfl, hb⟩; refine ⟨_, rfl, ?_⟩; have n0_ := Aside0.mk (below_step (by repeat (first | (with_reducible first | exact HB.out | apply below_alloc | apply pw_below_drewN | apply below_drew1) | exact HB.out)) hb); clear HB; have HB := n0_; clear n0_; (try clear hb); (try clear hb2); (try clear hk); (try clear hi)) | (go_at_call 15; (with_reducible refine (word_Alu.calls 16 a0 a1 t234 _ A6.out).mono ?_); rintro e w14 ⟨rfl, hb⟩; have n0_ := Aside0.mk (below_step (by repeat (first | (with_reducible first | exact HB.out | apply below_alloc | apply pw_below_drewN | apply below_drew1) | exact HB.out)) hb); clear HB; have HB := n0_; clear n0_; (try clear hb); (try clear hb2); (try clear hk); (try clear hi)) | (go_at_call 15; (with_reducible refine (word_Alu.calls 17 a0 a1 t235 _ A8.out).mono ?_); rintro e w15 ⟨rfl, hb⟩; have n0_ := Aside0.mk (below_step (by repeat (first | (with_reducible first | exact HB.out | apply below_alloc | apply pw_below_drewN | apply below_drew1) | exact HB.out)) hb); clear HB; have HB := n0_; clear n0_; (try clear hb); (try clear hb2); (try clear hk); (try clear hi)) | (go_at_call 15; (with_reducible refine (word_Alu.calls 18 a0 a1 t236 _ A10.out).mono ?_); rintro e w16 ⟨rfl, hb⟩; have n0_ := Aside0.mk (below_step (by repeat (first | (with_reducible first | exact HB.out | apply below_alloc | apply pw_below_drewN | apply below_drew1) | exact HB.out)) hb); clear HB; have HB := n0_; clear n0_; (try clear hb); (try clear hb2); (try clear hk); (try clear hi)) | (go_at_call 17; (with_reducible refine (citadellaw01_awake.calls  t237 _ A12.out).mono ?_); rintro e w17 ⟨rfl, hb⟩; have n0_ := Aside0.mk (below_step (by repeat (first | (with_reducible first | exact HB.out | apply below_alloc | apply pw_below_drewN | apply below_drew1) | exact HB.out)) hb); clear HB; have HB := n0_; clear n0_; (try clear hb); (try clear hb2); (try clear hk); (try clear hi)))
            go_ret
            exact ⟨by first | rfl | (simp [errW_none, errW_some] <;> rfl) | (simp [*, errW_none, errW_some] <;> rfl), by repeat (first | (with_reducible first | exact HB.out | apply below_alloc | apply pw_below_drewN | apply below_drew1) | exact HB.out)⟩
          · rw [if_neg c11] at H
            have c11b0 : (t236 == a0) = false := beq_eq_false_iff_ne.mpr c11
            have c11b1 : (t236 != a0) = true := bne_iff_ne.mpr c11
            obtain rfl := Option.some.inj H
            go_enter Try.func6, Try.ntmps6
            go_wp2_with (first | ((with_reducible refine gate_callee (f := 15) rfl ?_); refine goesL_ (some 11) rfl rfl Try.func15 (by kernel_rfl) rfl #[.int .i64 15, .int .u64 a0, .int .u64 a1] rfl (by (try simp only [List.map_toArray, List.map_cons, List.map_nil]); first | done | rfl | (simp only [List.length_drop, List.length_take]; rfl)) ?_; (with_reducible refine (word_Alu.calls 15 a0 a1 t233 _ A4.out).mono ?_); rintro e w18 ⟨rfl, hb⟩; refine ⟨_, rfl, ?_⟩; have n0_ := Aside0.mk (below_step (by repeat (first | (with_reducible first | exact HB.out | apply below_alloc | apply pw_below_drewN | apply below_drew1) | exact HB.out)) hb); clear HB; have HB := n0_; clear n0_; (try clear hb); (try clear hb2); (try clear hk); (try clear hi)) | (go_at_call 15; (with_reducible refine (word_Alu.calls 16 a0 a1 t234 _ A6.out).mono ?_); rintro e w19 ⟨rfl, hb⟩; have n0_ := Aside0.mk (below_step (by repeat (first | (with_reducible first | exact HB.out | apply below_alloc | apply pw_below_drewN | apply below_drew1) | exact HB.out)) hb); clear HB; have HB := n0_; clear n0_; (try clear hb); (try clear hb2); (try clear hk); (try clear hi)) | (go_at_call 15; (with_reducible refine (word_Alu.calls 17 a0 a1 t235 _ A8.out).mono ?_); rintro e w20 ⟨rfl, hb⟩; have n0_ := Aside0.mk (below_step (by repeat (first | (with_reducible first | exact HB.out | apply below_alloc | apply pw_below_drewN | apply below_drew1) | exact HB.out)) hb); clear HB; have HB := n0_; clear n0_; (try clear hb); (try clear hb2); (try clear hk); (try clear hi)) | (go_at_call 15; (with_reducible refine (word_Alu.calls 18 a0 a1 t236 _ A10.out).mono ?_); rintro e w21 ⟨rfl, hb⟩; have n0_ := Aside0.mk (below_step (by repeat (first | (with_reducible first | exact HB.out | apply below_alloc | apply pw_below_drewN | apply below_drew1) | exact HB.out)) hb); clear HB; have HB := n0_; clear n0_; (try clear hb); (try clear hb2); (try clear hk); (try clear hi)))
            go_ret
            exact ⟨by first | rfl | (simp [errW_none, errW_some] <;> rfl) | (simp [*, errW_none, errW_some] <;> rfl), by repeat (first | (with_reducible first | exact HB.out | apply below_alloc | apply pw_below_drewN | apply below_drew1) | exact HB.out)⟩
        · rw [if_neg c9] at H
          have c9b0 : (t235 == a0) = false := beq_eq_false_iff_ne.mpr c9
          have c9b1 : (t235 != a0) = true := bne_iff_ne.mpr c9
          obtain rfl := Option.some.inj H
          go_enter Try.func6, Try.ntmps6
          go_wp2_with (first | ((with_reducible refine gate_callee (f := 15) rfl ?_); refine goesL_ (some 11) rfl rfl Try.func15 (by kernel_rfl) rfl #[.int .i64 15, .int .u64 a0, .int .u64 a1] rfl (by (try simp only [List.map_toArray, List.map_cons, List.map_nil]); first | done | rfl | (simp only [List.length_drop, List.length_take]; rfl)) ?_; (with_reducible refine (word_Alu.calls 15 a0 a1 t233 _ A4.out).mono ?_); rintro e w22 ⟨rfl, hb⟩; refine ⟨_, rfl, ?_⟩; have n0_ := Aside0.mk (below_step (by repeat (first | (with_reducible first | exact HB.out | apply below_alloc | apply pw_below_drewN | apply below_drew1) | exact HB.out)) hb); clear HB; have HB := n0_; clear n0_; (try clear hb); (try clear hb2); (try clear hk); (try clear hi)) | (go_at_call 15; (with_reducible refine (word_Alu.calls 16 a0 a1 t234 _ A6.out).mono ?_); rintro e w23 ⟨rfl, hb⟩; have n0_ := Aside0.mk (below_step (by repeat (first | (with_reducible first | exact HB.out | apply below_alloc | apply pw_below_drewN | apply below_drew1) | exact HB.out)) hb); clear HB; have HB := n0_; clear n0_; (try clear hb); (try clear hb2); (try clear hk); (try clear hi)) | (go_at_call 15; (with_reducible refine (word_Alu.calls 17 a0 a1 t235 _ A8.out).mono ?_); rintro e w24 ⟨rfl, hb⟩; have n0_ := Aside0.mk (below_step (by repeat (first | (with_reducible first | exact HB.out | apply below_alloc | apply pw_below_drewN | apply below_drew1) | exact HB.out)) hb); clear HB; have HB := n0_; clear n0_; (try clear hb); (try clear hb2); (try clear hk); (try clear hi)))
          go_ret
          exact ⟨by first | rfl | (simp [errW_none, errW_some] <;> rfl) | (simp [*, errW_none, errW_some] <;> rfl), by repeat (first | (with_reducible first | exact HB.out | apply below_alloc | apply pw_below_drewN | apply below_drew1) | exact HB.out)⟩
      · rw [if_neg c7] at H
        have c7b0 : (t234 == 18446744073709551615) = false := beq_eq_false_iff_ne.mpr c7
        have c7b1 : (t234 != 18446744073709551615) = true := bne_iff_ne.mpr c7
        obtain rfl := Option.some.inj H
        go_enter Try.func6, Try.ntmps6
        go_wp2_with (first | ((with_reducible refine gate_callee (f := 15) rfl ?_); refine goesL_ (some 11) rfl rfl Try.func15 (by kernel_rfl) rfl #[.int .i64 15, .int .u64 a0, .int .u64 a1] rfl (by (try simp only [List.map_toArray, List.map_cons, List.map_nil]); first | done | rfl | (simp only [List.length_drop, List.length_take]; rfl)) ?_; (with_reducible refine (word_Alu.calls 15 a0 a1 t233 _ A4.out).mono ?_); rintro e w25 ⟨rfl, hb⟩; refine ⟨_, rfl, ?_⟩; have n0_ := Aside0.mk (below_step (by repeat (first | (with_reducible first | exact HB.out | apply below_alloc | apply pw_below_drewN | apply below_drew1) | exact HB.out)) hb); clear HB; have HB := n0_; clear n0_; (try clear hb); (try clear hb2); (try clear hk); (try clear hi)) | (go_at_call 15; (with_reducible refine (word_Alu.calls 16 a0 a1 t234 _ A6.out).mono ?_); rintro e w26 ⟨rfl, hb⟩; have n0_ := Aside0.mk (below_step (by repeat (first | (with_reducible first | exact HB.out | apply below_alloc | apply pw_below_drewN | apply below_drew1) | exact HB.out)) hb); clear HB; have HB := n0_; clear n0_; (try clear hb); (try clear hb2); (try clear hk); (try clear hi)))
        go_ret
        exact ⟨by first | rfl | (simp [errW_none, errW_some] <;> rfl) | (simp [*, errW_none, errW_some] <;> rfl), by repeat (first | (with_reducible first | exact HB.out | apply below_alloc | apply pw_below_drewN | apply below_drew1) | exact HB.out)⟩
    · rw [if_neg c5] at H
      have c5b0 : (t233 == 18446744073709551615) = false := beq_eq_false_iff_ne.mpr c5
      have c5b1 : (t233 != 18446744073709551615) = true := bne_iff_ne.mpr c5
      obtain rfl := Option.some.inj H
      go_enter Try.func6, Try.ntmps6
      go_wp2_with (first | ((with_reducible refine gate_callee (f := 15) rfl ?_); refine goesL_ (some 11) rfl rfl Try.func15 (by kernel_rfl) rfl #[.int .i64 15, .int .u64 a0, .int .u64 a1] rfl (by (try simp only [List.map_toArray, List.map_cons, List.map_nil]); first | done | rfl | (simp only [List.length_drop, List.length_take]; rfl)) ?_; (with_reducible refine (word_Alu.calls 15 a0 a1 t233 _ A4.out).mono ?_); rintro e w27 ⟨rfl, hb⟩; refine ⟨_, rfl, ?_⟩; have n0_ := Aside0.mk (below_step (by repeat (first | (with_reducible first | exact HB.out | apply below_alloc | apply pw_below_drewN | apply below_drew1) | exact HB.out)) hb); clear HB; have HB := n0_; clear n0_; (try clear hb); (try clear hb2); (try clear hk); (try clear hi)))
      go_ret
      exact ⟨by first | rfl | (simp [errW_none, errW_some] <;> rfl) | (simp [*, errW_none, errW_some] <;> rfl), by repeat (first | (with_reducible first | exact HB.out | apply below_alloc | apply pw_below_drewN | apply below_drew1) | exact HB.out)⟩
  · rw [if_neg c3] at H
    have c3b0 : (a1 == 0) = false := beq_eq_false_iff_ne.mpr c3
    have c3b1 : (a1 != 0) = true := bne_iff_ne.mpr c3
    have HC28 := Aside0.mk H
    clear H
    go_enter Try.func6, Try.ntmps6
    go_upto_region 3 with (fail)
    go_cut [66] (fun v66 wc => ∃ (kq : Nat) (x66_27 : Bool), v66 = .bool x66_27 ∧ Aside0 (citadellaw01_WordDivides.j0 kq a0 a1 x66_27 = some r) ∧ Aside0 (kq ≤ k) ∧ Aside0 (Below w.heap.size w wc))
    case first =>
      have H := HC28.out
      clear HC28
      replace H := Option.bind_eq_some_iff.mp H
      obtain ⟨t238, A290, H⟩ := H
      replace H : ((word_Alu.f 17 a0 a1).bind fun t239 => (if (IntKind.u64.wrap ((IntKind.u64.wrap (t238 * a1)) + t239)) = a0 then ((word_Alu.f 16 a0 a1).bind fun t240 => ((word_Alu.f 18 a0 a1).bind fun t241 => (if (IntKind.u64.wrap ((IntKind.u64.wrap (t240 * a1)) + t241)) = a0 then ((word_Alu.f 18 a0 a1).bind fun t242 => (citadellaw01_WordDivides.j0 k a0 a1 (decide (t242 ≥ a1)))) else (citadellaw01_WordDivides.j0 k a0 a1 true)))) else (citadellaw01_WordDivides.j0 k a0 a1 true))) = some r := H
      have A29 := Aside0.mk A290
      clear A290
      replace H := Option.bind_eq_some_iff.mp H
      obtain ⟨t239, A300, H⟩ := H
      replace H : (if (IntKind.u64.wrap ((IntKind.u64.wrap (t238 * a1)) + t239)) = a0 then ((word_Alu.f 16 a0 a1).bind fun t240 => ((word_Alu.f 18 a0 a1).bind fun t241 => (if (IntKind.u64.wrap ((IntKind.u64.wrap (t240 * a1)) + t241)) = a0 then ((word_Alu.f 18 a0 a1).bind fun t242 => (citadellaw01_WordDivides.j0 k a0 a1 (decide (t242 ≥ a1)))) else (citadellaw01_WordDivides.j0 k a0 a1 true)))) else (citadellaw01_WordDivides.j0 k a0 a1 true)) = some r := H
      have A30 := Aside0.mk A300
      clear A300
      by_cases c31 : (IntKind.u64.wrap ((IntKind.u64.wrap (t238 * a1)) + t239)) = a0
      · rw [if_pos c31] at H
        have c31b0 : ((IntKind.u64.wrap ((IntKind.u64.wrap (t238 * a1)) + t239)) == a0) = true := beq_iff_eq.mpr c31
        have c31b1 : ((IntKind.u64.wrap ((IntKind.u64.wrap (t238 * a1)) + t239)) != a0) = false := bne_eq_false_iff_eq.mpr c31
        clear c31
        (try simp only [Int.emod_add_emod, Int.add_emod_emod] at c31b0 c31b1)
        (first | rw [c31b0] | (simp only [i64_w, i32_w]; rw [c31b0]) | skip)
        replace H := Option.bind_eq_some_iff.mp H
        obtain ⟨t240, A320, H⟩ := H
        replace H : ((word_Alu.f 18 a0 a1).bind fun t241 => (if (IntKind.u64.wrap ((IntKind.u64.wrap (t240 * a1)) + t241)) = a0 then ((word_Alu.f 18 a0 a1).bind fun t242 => (citadellaw01_WordDivides.j0 k a0 a1 (decide (t242 ≥ a1)))) else (citadellaw01_WordDivides.j0 k a0 a1 true))) = some r := H
        have A32 := Aside0.mk A320
        clear A320
        replace H := Option.bind_eq_some_iff.mp H
        obtain ⟨t241, A330, H⟩ := H
        replace H : (if (IntKind.u64.wrap ((IntKind.u64.wrap (t240 * a1)) + t241)) = a0 then ((word_Alu.f 18 a0 a1).bind fun t242 => (citadellaw01_WordDivides.j0 k a0 a1 (decide (t242 ≥ a1)))) else (citadellaw01_WordDivides.j0 k a0 a1 true)) = some r := H
        have A33 := Aside0.mk A330
        clear A330
        by_cases c34 : (IntKind.u64.wrap ((IntKind.u64.wrap (t240 * a1)) + t241)) = a0
        · rw [if_pos c34] at H
          have c34b0 : ((IntKind.u64.wrap ((IntKind.u64.wrap (t240 * a1)) + t241)) == a0) = true := beq_iff_eq.mpr c34
          have c34b1 : ((IntKind.u64.wrap ((IntKind.u64.wrap (t240 * a1)) + t241)) != a0) = false := bne_eq_false_iff_eq.mpr c34
          clear c34
          (try simp only [Int.emod_add_emod, Int.add_emod_emod] at c34b0 c34b1)
          replace H := Option.bind_eq_some_iff.mp H
          obtain ⟨t242, A350, H⟩ := H
          replace H : (citadellaw01_WordDivides.j0 k a0 a1 (decide (t242 ≥ a1))) = some r := H
          obtain rfl : t241 = t242 := Option.some.inj (A33.out.symm.trans A350)
          have A35 := Aside0.mk A350
          clear A350
          have H' := Aside0.mk H
          clear H
          go_wp2_with (first | ((with_reducible refine gate_callee (f := 15) rfl ?_); refine goesL_ (some 38) rfl rfl Try.func15 (by kernel_rfl) rfl #[.int .i64 15, .int .u64 a0, .int .u64 a1] rfl (by (try simp only [List.map_toArray, List.map_cons, List.map_nil]); first | done | rfl | (simp only [List.length_drop, List.length_take]; rfl)) ?_; (with_reducible refine (word_Alu.calls 15 a0 a1 t238 _ A29.out).mono ?_); rintro e w36 ⟨rfl, hb⟩; refine ⟨_, rfl, ?_⟩; have n0_ := Aside0.mk (below_step (by repeat (first | (with_reducible first | exact HB.out | apply below_alloc | apply pw_below_drewN | apply below_drew1) | exact HB.out)) hb); clear HB; have HB := n0_; clear n0_; (try clear hb); (try clear hb2); (try clear hk); (try clear hi)) | ((with_reducible refine gate_callee (f := 15) rfl ?_); refine goesL_ (some 43) rfl rfl Try.func15 (by kernel_rfl) rfl #[.int .i64 17, .int .u64 a0, .int .u64 a1] rfl (by (try simp only [List.map_toArray, List.map_cons, List.map_nil]); first | done | rfl | (simp only [List.length_drop, List.length_take]; rfl)) ?_; (with_reducible refine (word_Alu.calls 17 a0 a1 t239 _ A30.out).mono ?_); rintro e w37 ⟨rfl, hb⟩; refine ⟨_, rfl, ?_⟩; have n0_ := Aside0.mk (below_step (by repeat (first | (with_reducible first | exact HB.out | apply below_alloc | apply pw_below_drewN | apply below_drew1) | exact HB.out)) hb); clear HB; have HB := n0_; clear n0_; (try clear hb); (try clear hb2); (try clear hk); (try clear hi)) | (go_at_call 15; (with_reducible refine (word_Alu.calls 16 a0 a1 t240 _ A32.out).mono ?_); rintro e w38 ⟨rfl, hb⟩; have n0_ := Aside0.mk (below_step (by repeat (first | (with_reducible first | exact HB.out | apply below_alloc | apply pw_below_drewN | apply below_drew1) | exact HB.out)) hb); clear HB; have HB := n0_; clear n0_; (try clear hb); (try clear hb2); (try clear hk); (try clear hi)) | (go_at_call 15; (with_reducible refine (word_Alu.calls 18 a0 a1 t241 _ A33.out).mono ?_); rintro e w39 ⟨rfl, hb⟩; have n0_ := Aside0.mk (below_step (by repeat (first | (with_reducible first | exact HB.out | apply below_alloc | apply pw_below_drewN | apply below_drew1) | exact HB.out)) hb); clear HB; have HB := n0_; clear n0_; (try clear hb); (try clear hb2); (try clear hk); (try clear hi)) | (go_at_call 15; (with_reducible refine (word_Alu.calls 18 a0 a1 t241 _ A35.out).mono ?_); rintro e w40 ⟨rfl, hb⟩; have n0_ := Aside0.mk (below_step (by repeat (first | (with_reducible first | exact HB.out | apply below_alloc | apply pw_below_drewN | apply below_drew1) | exact HB.out)) hb); clear HB; have HB := n0_; clear n0_; (try clear hb); (try clear hb2); (try clear hk); (try clear hi)))
          go_meet
          case rel => exact ⟨_, (decide (t241 ≥ a1)), (by first | rfl | (simp; done) | (simp [*]; done)), H', ⟨by first | omega | exact Nat.le_refl _⟩, ⟨by repeat (first | (with_reducible first | exact HB.out | apply below_alloc | apply pw_below_drewN | apply below_drew1) | exact HB.out)⟩⟩
        · rw [if_neg c34] at H
          have c34b0 : ((IntKind.u64.wrap ((IntKind.u64.wrap (t240 * a1)) + t241)) == a0) = false := beq_eq_false_iff_ne.mpr c34
          have c34b1 : ((IntKind.u64.wrap ((IntKind.u64.wrap (t240 * a1)) + t241)) != a0) = true := bne_iff_ne.mpr c34
          have H' := Aside0.mk H
          clear H
          go_wp2_with (first | ((with_reducible refine gate_callee (f := 15) rfl ?_); refine goesL_ (some 38) rfl rfl Try.func15 (by kernel_rfl) rfl #[.int .i64 15, .int .u64 a0, .int .u64 a1] rfl (by (try simp only [List.map_toArray, List.map_cons, List.map_nil]); first | done | rfl | (simp only [List.length_drop, List.length_take]; rfl)) ?_; (with_reducible refine (word_Alu.calls 15 a0 a1 t238 _ A29.out).mono ?_); rintro e w41 ⟨rfl, hb⟩; refine ⟨_, rfl, ?_⟩; have n0_ := Aside0.mk (below_step (by repeat (first | (with_reducible first | exact HB.out | apply below_alloc | apply pw_below_drewN | apply below_drew1) | exact HB.out)) hb); clear HB; have HB := n0_; clear n0_; (try clear hb); (try clear hb2); (try clear hk); (try clear hi)) | ((with_reducible refine gate_callee (f := 15) rfl ?_); refine goesL_ (some 43) rfl rfl Try.func15 (by kernel_rfl) rfl #[.int .i64 17, .int .u64 a0, .int .u64 a1] rfl (by (try simp only [List.map_toArray, List.map_cons, List.map_nil]); first | done | rfl | (simp only [List.length_drop, List.length_take]; rfl)) ?_; (with_reducible refine (word_Alu.calls 17 a0 a1 t239 _ A30.out).mono ?_); rintro e w42 ⟨rfl, hb⟩; refine ⟨_, rfl, ?_⟩; have n0_ := Aside0.mk (below_step (by repeat (first | (with_reducible first | exact HB.out | apply below_alloc | apply pw_below_drewN | apply below_drew1) | exact HB.out)) hb); clear HB; have HB := n0_; clear n0_; (try clear hb); (try clear hb2); (try clear hk); (try clear hi)) | (go_at_call 15; (with_reducible refine (word_Alu.calls 16 a0 a1 t240 _ A32.out).mono ?_); rintro e w43 ⟨rfl, hb⟩; have n0_ := Aside0.mk (below_step (by repeat (first | (with_reducible first | exact HB.out | apply below_alloc | apply pw_below_drewN | apply below_drew1) | exact HB.out)) hb); clear HB; have HB := n0_; clear n0_; (try clear hb); (try clear hb2); (try clear hk); (try clear hi)) | (go_at_call 15; (with_reducible refine (word_Alu.calls 18 a0 a1 t241 _ A33.out).mono ?_); rintro e w44 ⟨rfl, hb⟩; have n0_ := Aside0.mk (below_step (by repeat (first | (with_reducible first | exact HB.out | apply below_alloc | apply pw_below_drewN | apply below_drew1) | exact HB.out)) hb); clear HB; have HB := n0_; clear n0_; (try clear hb); (try clear hb2); (try clear hk); (try clear hi)))
          go_meet
          case rel => exact ⟨_, (true), (by first | rfl | (simp; done) | (simp [*]; done)), H', ⟨by first | omega | exact Nat.le_refl _⟩, ⟨by repeat (first | (with_reducible first | exact HB.out | apply below_alloc | apply pw_below_drewN | apply below_drew1) | exact HB.out)⟩⟩
      · rw [if_neg c31] at H
        have c31b0 : ((IntKind.u64.wrap ((IntKind.u64.wrap (t238 * a1)) + t239)) == a0) = false := beq_eq_false_iff_ne.mpr c31
        have c31b1 : ((IntKind.u64.wrap ((IntKind.u64.wrap (t238 * a1)) + t239)) != a0) = true := bne_iff_ne.mpr c31
        (first | rw [c31b0] | (simp only [i64_w, i32_w]; rw [c31b0]) | skip)
        have H' := Aside0.mk H
        clear H
        go_wp2_with (first | ((with_reducible refine gate_callee (f := 15) rfl ?_); refine goesL_ (some 38) rfl rfl Try.func15 (by kernel_rfl) rfl #[.int .i64 15, .int .u64 a0, .int .u64 a1] rfl (by (try simp only [List.map_toArray, List.map_cons, List.map_nil]); first | done | rfl | (simp only [List.length_drop, List.length_take]; rfl)) ?_; (with_reducible refine (word_Alu.calls 15 a0 a1 t238 _ A29.out).mono ?_); rintro e w45 ⟨rfl, hb⟩; refine ⟨_, rfl, ?_⟩; have n0_ := Aside0.mk (below_step (by repeat (first | (with_reducible first | exact HB.out | apply below_alloc | apply pw_below_drewN | apply below_drew1) | exact HB.out)) hb); clear HB; have HB := n0_; clear n0_; (try clear hb); (try clear hb2); (try clear hk); (try clear hi)) | ((with_reducible refine gate_callee (f := 15) rfl ?_); refine goesL_ (some 43) rfl rfl Try.func15 (by kernel_rfl) rfl #[.int .i64 17, .int .u64 a0, .int .u64 a1] rfl (by (try simp only [List.map_toArray, List.map_cons, List.map_nil]); first | done | rfl | (simp only [List.length_drop, List.length_take]; rfl)) ?_; (with_reducible refine (word_Alu.calls 17 a0 a1 t239 _ A30.out).mono ?_); rintro e w46 ⟨rfl, hb⟩; refine ⟨_, rfl, ?_⟩; have n0_ := Aside0.mk (below_step (by repeat (first | (with_reducible first | exact HB.out | apply below_alloc | apply pw_below_drewN | apply below_drew1) | exact HB.out)) hb); clear HB; have HB := n0_; clear n0_; (try clear hb); (try clear hb2); (try clear hk); (try clear hi)))
        go_meet
        case rel => exact ⟨_, (true), (by first | rfl | (simp; done) | (simp [*]; done)), H', ⟨by first | omega | exact Nat.le_refl _⟩, ⟨by repeat (first | (with_reducible first | exact HB.out | apply below_alloc | apply pw_below_drewN | apply below_drew1) | exact HB.out)⟩⟩
    case rest =>
      clear HC28
      try clear c1
      try clear p2
      try clear c3
      try clear c3b0
      try clear c3b1
      try clear c5
      try clear c5b0
      try clear c5b1
      try clear c6
      try clear c7
      try clear c7b0
      try clear c7b1
      try clear c9
      try clear c9b0
      try clear c9b1
      try clear c11
      try clear c11b0
      try clear c11b1
      try clear c15
      try clear c31
      try clear c31b0
      try clear c31b1
      try clear c34
      try clear c34b0
      try clear c34b1
      obtain ⟨kq, x66_27, rfl, HA, HJ27, HB⟩ := hcut
      cases kq with
      | zero => exact absurd HA.out (by simp [citadellaw01_WordDivides.j0])
      | succ kj27 =>
        have H := HA.out
        clear HA
        simp only [citadellaw01_WordDivides.j0] at H
        by_cases c47 : x66_27 = true
        · subst c47
          have H1 : (some false) = some r := by rw [if_pos rfl] at H; exact H
          clear H
          have H := H1
          clear H1
          obtain rfl := Option.some.inj H
          go_wp2
          go_ret
          exact ⟨by first | rfl | (simp [errW_none, errW_some] <;> rfl) | (simp [*, errW_none, errW_some] <;> rfl), by repeat (first | (with_reducible first | exact HB.out | apply below_alloc | apply pw_below_drewN | apply below_drew1) | exact HB.out)⟩
        · replace c47 := Bool.eq_false_iff.mpr c47
          subst c47
          have H1 : (if ((a1) % 4294967296) = 0 then ((citadellaw01_awake.f).bind fun t243 => (some t243)) else ((word_Alu.f 25 a0 a1).bind fun t244 => ((word_Alu.f 27 a0 a1).bind fun t245 => ((word_Alu.f 26 a0 a1).bind fun t246 => ((word_Alu.f 28 a0 a1).bind fun t247 => (if ((((((t244) % 4294967296) * ((a1) % 4294967296)) % 4294967296) + ((t245) % 4294967296)) % 4294967296) = ((a0) % 4294967296) then (if ((((((t246) % 4294967296) * ((a1) % 4294967296)) % 4294967296) + ((t247) % 4294967296)) % 4294967296) = ((a0) % 4294967296) then ((citadellaw01_awake.f).bind fun t248 => (some t248)) else (some false)) else (some false))))))) = some r := by rw [if_neg (show ¬ (false = true) by decide)] at H; exact H
          clear H
          have H := H1
          clear H1
          by_cases c48 : ((a1) % 4294967296) = 0
          · rw [if_pos c48] at H
            have c48b0 : (((a1) % 4294967296) == 0) = true := beq_iff_eq.mpr c48
            have c48b1 : (((a1) % 4294967296) != 0) = false := bne_eq_false_iff_eq.mpr c48
            clear c48
            (try simp only [Int.emod_add_emod, Int.add_emod_emod] at c48b0 c48b1)
            replace H := Option.bind_eq_some_iff.mp H
            obtain ⟨t243, A490, H⟩ := H
            replace H : (some t243) = some r := H
            have A49 := Aside0.mk A490
            clear A490
            obtain rfl := Option.some.inj H
            go_wp2_with (first | ((with_reducible refine gate_callee (f := 17) rfl ?_); refine goesL_ (some 70) rfl rfl Try.func17 (by kernel_rfl) rfl #[] rfl (by (try simp only [List.map_toArray, List.map_cons, List.map_nil]); first | done | rfl | (simp only [List.length_drop, List.length_take]; rfl)) ?_; (with_reducible refine (citadellaw01_awake.calls  t243 _ A49.out).mono ?_); rintro e w50 ⟨rfl, hb⟩; refine ⟨_, rfl, ?_⟩; have n0_ := Aside0.mk (below_step (by repeat (first | (with_reducible first | exact HB.out | apply below_alloc | apply pw_below_drewN | apply below_drew1) | exact HB.out)) hb); clear HB; have HB := n0_; clear n0_; (try clear hb); (try clear hb2); (try clear hk); (try clear hi)))
            go_ret
            exact ⟨by first | rfl | (simp [errW_none, errW_some] <;> rfl) | (simp [*, errW_none, errW_some] <;> rfl), by repeat (first | (with_reducible first | exact HB.out | apply below_alloc | apply pw_below_drewN | apply below_drew1) | exact HB.out)⟩
          · rw [if_neg c48] at H
            have c48b0 : (((a1) % 4294967296) == 0) = false := beq_eq_false_iff_ne.mpr c48
            have c48b1 : (((a1) % 4294967296) != 0) = true := bne_iff_ne.mpr c48
            replace H := Option.bind_eq_some_iff.mp H
            obtain ⟨t244, A510, H⟩ := H
            replace H : ((word_Alu.f 27 a0 a1).bind fun t245 => ((word_Alu.f 26 a0 a1).bind fun t246 => ((word_Alu.f 28 a0 a1).bind fun t247 => (if ((((((t244) % 4294967296) * ((a1) % 4294967296)) % 4294967296) + ((t245) % 4294967296)) % 4294967296) = ((a0) % 4294967296) then (if ((((((t246) % 4294967296) * ((a1) % 4294967296)) % 4294967296) + ((t247) % 4294967296)) % 4294967296) = ((a0) % 4294967296) then ((citadellaw01_awake.f).bind fun t248 => (some t248)) else (some false)) else (some false))))) = some r := H
            have A51 := Aside0.mk A510
            clear A510
            replace H := Option.bind_eq_some_iff.mp H
            obtain ⟨t245, A520, H⟩ := H
            replace H : ((word_Alu.f 26 a0 a1).bind fun t246 => ((word_Alu.f 28 a0 a1).bind fun t247 => (if ((((((t244) % 4294967296) * ((a1) % 4294967296)) % 4294967296) + ((t245) % 4294967296)) % 4294967296) = ((a0) % 4294967296) then (if ((((((t246) % 4294967296) * ((a1) % 4294967296)) % 4294967296) + ((t247) % 4294967296)) % 4294967296) = ((a0) % 4294967296) then ((citadellaw01_awake.f).bind fun t248 => (some t248)) else (some false)) else (some false)))) = some r := H
            have A52 := Aside0.mk A520
            clear A520
            replace H := Option.bind_eq_some_iff.mp H
            obtain ⟨t246, A530, H⟩ := H
            replace H : ((word_Alu.f 28 a0 a1).bind fun t247 => (if ((((((t244) % 4294967296) * ((a1) % 4294967296)) % 4294967296) + ((t245) % 4294967296)) % 4294967296) = ((a0) % 4294967296) then (if ((((((t246) % 4294967296) * ((a1) % 4294967296)) % 4294967296) + ((t247) % 4294967296)) % 4294967296) = ((a0) % 4294967296) then ((citadellaw01_awake.f).bind fun t248 => (some t248)) else (some false)) else (some false))) = some r := H
            have A53 := Aside0.mk A530
            clear A530
            replace H := Option.bind_eq_some_iff.mp H
            obtain ⟨t247, A540, H⟩ := H
            replace H : (if ((((((t244) % 4294967296) * ((a1) % 4294967296)) % 4294967296) + ((t245) % 4294967296)) % 4294967296) = ((a0) % 4294967296) then (if ((((((t246) % 4294967296) * ((a1) % 4294967296)) % 4294967296) + ((t247) % 4294967296)) % 4294967296) = ((a0) % 4294967296) then ((citadellaw01_awake.f).bind fun t248 => (some t248)) else (some false)) else (some false)) = some r := H
            have A54 := Aside0.mk A540
            clear A540
            by_cases c55 : ((((((t244) % 4294967296) * ((a1) % 4294967296)) % 4294967296) + ((t245) % 4294967296)) % 4294967296) = ((a0) % 4294967296)
            · rw [if_pos c55] at H
              have c55b0 : (((((((t244) % 4294967296) * ((a1) % 4294967296)) % 4294967296) + ((t245) % 4294967296)) % 4294967296) == ((a0) % 4294967296)) = true := beq_iff_eq.mpr c55
              have c55b1 : (((((((t244) % 4294967296) * ((a1) % 4294967296)) % 4294967296) + ((t245) % 4294967296)) % 4294967296) != ((a0) % 4294967296)) = false := bne_eq_false_iff_eq.mpr c55
              clear c55
              (try simp only [Int.emod_add_emod, Int.add_emod_emod] at c55b0 c55b1)
              by_cases c56 : ((((((t246) % 4294967296) * ((a1) % 4294967296)) % 4294967296) + ((t247) % 4294967296)) % 4294967296) = ((a0) % 4294967296)
              · rw [if_pos c56] at H
                have c56b0 : (((((((t246) % 4294967296) * ((a1) % 4294967296)) % 4294967296) + ((t247) % 4294967296)) % 4294967296) == ((a0) % 4294967296)) = true := beq_iff_eq.mpr c56
                have c56b1 : (((((((t246) % 4294967296) * ((a1) % 4294967296)) % 4294967296) + ((t247) % 4294967296)) % 4294967296) != ((a0) % 4294967296)) = false := bne_eq_false_iff_eq.mpr c56
                clear c56
                (try simp only [Int.emod_add_emod, Int.add_emod_emod] at c56b0 c56b1)
                replace H := Option.bind_eq_some_iff.mp H
                obtain ⟨t248, A570, H⟩ := H
                replace H : (some t248) = some r := H
                have A57 := Aside0.mk A570
                clear A570
                obtain rfl := Option.some.inj H
                go_wp2_with (first | ((with_reducible refine gate_callee (f := 15) rfl ?_); refine goesL_ (some 73) rfl rfl Try.func15 (by kernel_rfl) rfl #[.int .i64 25, .int .u64 a0, .int .u64 a1] rfl (by (try simp only [List.map_toArray, List.map_cons, List.map_nil]); first | done | rfl | (simp only [List.length_drop, List.length_take]; rfl)) ?_; (with_reducible refine (word_Alu.calls 25 a0 a1 t244 _ A51.out).mono ?_); rintro e w58 ⟨rfl, hb⟩; refine ⟨_, rfl, ?_⟩; have n0_ := Aside0.mk (below_step (by repeat (first | (with_reducible first | exact HB.out | apply below_alloc | apply pw_below_drewN | apply below_drew1) | exact HB.out)) hb); clear HB; have HB := n0_; clear n0_; (try clear hb); (try clear hb2); (try clear hk); (try clear hi)) | ((with_reducible refine gate_callee (f := 15) rfl ?_); refine goesL_ (some 80) rfl rfl Try.func15 (by kernel_rfl) rfl #[.int .i64 27, .int .u64 a0, .int .u64 a1] rfl (by (try simp only [List.map_toArray, List.map_cons, List.map_nil]); first | done | rfl | (simp only [List.length_drop, List.length_take]; rfl)) ?_; (with_reducible refine (word_Alu.calls 27 a0 a1 t245 _ A52.out).mono ?_); rintro e w59 ⟨rfl, hb⟩; refine ⟨_, rfl, ?_⟩; have n0_ := Aside0.mk (below_step (by repeat (first | (with_reducible first | exact HB.out | apply below_alloc | apply pw_below_drewN | apply below_drew1) | exact HB.out)) hb); clear HB; have HB := n0_; clear n0_; (try clear hb); (try clear hb2); (try clear hk); (try clear hi)) | ((with_reducible refine gate_callee (f := 15) rfl ?_); refine goesL_ (some 85) rfl rfl Try.func15 (by kernel_rfl) rfl #[.int .i64 26, .int .u64 a0, .int .u64 a1] rfl (by (try simp only [List.map_toArray, List.map_cons, List.map_nil]); first | done | rfl | (simp only [List.length_drop, List.length_take]; rfl)) ?_; (with_reducible refine (word_Alu.calls 26 a0 a1 t246 _ A53.out).mono ?_); rintro e w60 ⟨rfl, hb⟩; refine ⟨_, rfl, ?_⟩; have n0_ := Aside0.mk (below_step (by repeat (first | (with_reducible first | exact HB.out | apply below_alloc | apply pw_below_drewN | apply below_drew1) | exact HB.out)) hb); clear HB; have HB := n0_; clear n0_; (try clear hb); (try clear hb2); (try clear hk); (try clear hi)) | ((with_reducible refine gate_callee (f := 15) rfl ?_); refine goesL_ (some 92) rfl rfl Try.func15 (by kernel_rfl) rfl #[.int .i64 28, .int .u64 a0, .int .u64 a1] rfl (by (try simp only [List.map_toArray, List.map_cons, List.map_nil]); first | done | rfl | (simp only [List.length_drop, List.length_take]; rfl)) ?_; (with_reducible refine (word_Alu.calls 28 a0 a1 t247 _ A54.out).mono ?_); rintro e w61 ⟨rfl, hb⟩; refine ⟨_, rfl, ?_⟩; have n0_ := Aside0.mk (below_step (by repeat (first | (with_reducible first | exact HB.out | apply below_alloc | apply pw_below_drewN | apply below_drew1) | exact HB.out)) hb); clear HB; have HB := n0_; clear n0_; (try clear hb); (try clear hb2); (try clear hk); (try clear hi)) | (go_at_call 17; (with_reducible refine (citadellaw01_awake.calls  t248 _ A57.out).mono ?_); rintro e w62 ⟨rfl, hb⟩; have n0_ := Aside0.mk (below_step (by repeat (first | (with_reducible first | exact HB.out | apply below_alloc | apply pw_below_drewN | apply below_drew1) | exact HB.out)) hb); clear HB; have HB := n0_; clear n0_; (try clear hb); (try clear hb2); (try clear hk); (try clear hi)))
                go_ret
                exact ⟨by first | rfl | (simp [errW_none, errW_some] <;> rfl) | (simp [*, errW_none, errW_some] <;> rfl), by repeat (first | (with_reducible first | exact HB.out | apply below_alloc | apply pw_below_drewN | apply below_drew1) | exact HB.out)⟩
              · rw [if_neg c56] at H
                have c56b0 : (((((((t246) % 4294967296) * ((a1) % 4294967296)) % 4294967296) + ((t247) % 4294967296)) % 4294967296) == ((a0) % 4294967296)) = false := beq_eq_false_iff_ne.mpr c56
                have c56b1 : (((((((t246) % 4294967296) * ((a1) % 4294967296)) % 4294967296) + ((t247) % 4294967296)) % 4294967296) != ((a0) % 4294967296)) = true := bne_iff_ne.mpr c56
                obtain rfl := Option.some.inj H
                go_wp2_with (first | ((with_reducible refine gate_callee (f := 15) rfl ?_); refine goesL_ (some 73) rfl rfl Try.func15 (by kernel_rfl) rfl #[.int .i64 25, .int .u64 a0, .int .u64 a1] rfl (by (try simp only [List.map_toArray, List.map_cons, List.map_nil]); first | done | rfl | (simp only [List.length_drop, List.length_take]; rfl)) ?_; (with_reducible refine (word_Alu.calls 25 a0 a1 t244 _ A51.out).mono ?_); rintro e w63 ⟨rfl, hb⟩; refine ⟨_, rfl, ?_⟩; have n0_ := Aside0.mk (below_step (by repeat (first | (with_reducible first | exact HB.out | apply below_alloc | apply pw_below_drewN | apply below_drew1) | exact HB.out)) hb); clear HB; have HB := n0_; clear n0_; (try clear hb); (try clear hb2); (try clear hk); (try clear hi)) | ((with_reducible refine gate_callee (f := 15) rfl ?_); refine goesL_ (some 80) rfl rfl Try.func15 (by kernel_rfl) rfl #[.int .i64 27, .int .u64 a0, .int .u64 a1] rfl (by (try simp only [List.map_toArray, List.map_cons, List.map_nil]); first | done | rfl | (simp only [List.length_drop, List.length_take]; rfl)) ?_; (with_reducible refine (word_Alu.calls 27 a0 a1 t245 _ A52.out).mono ?_); rintro e w64 ⟨rfl, hb⟩; refine ⟨_, rfl, ?_⟩; have n0_ := Aside0.mk (below_step (by repeat (first | (with_reducible first | exact HB.out | apply below_alloc | apply pw_below_drewN | apply below_drew1) | exact HB.out)) hb); clear HB; have HB := n0_; clear n0_; (try clear hb); (try clear hb2); (try clear hk); (try clear hi)) | ((with_reducible refine gate_callee (f := 15) rfl ?_); refine goesL_ (some 85) rfl rfl Try.func15 (by kernel_rfl) rfl #[.int .i64 26, .int .u64 a0, .int .u64 a1] rfl (by (try simp only [List.map_toArray, List.map_cons, List.map_nil]); first | done | rfl | (simp only [List.length_drop, List.length_take]; rfl)) ?_; (with_reducible refine (word_Alu.calls 26 a0 a1 t246 _ A53.out).mono ?_); rintro e w65 ⟨rfl, hb⟩; refine ⟨_, rfl, ?_⟩; have n0_ := Aside0.mk (below_step (by repeat (first | (with_reducible first | exact HB.out | apply below_alloc | apply pw_below_drewN | apply below_drew1) | exact HB.out)) hb); clear HB; have HB := n0_; clear n0_; (try clear hb); (try clear hb2); (try clear hk); (try clear hi)) | ((with_reducible refine gate_callee (f := 15) rfl ?_); refine goesL_ (some 92) rfl rfl Try.func15 (by kernel_rfl) rfl #[.int .i64 28, .int .u64 a0, .int .u64 a1] rfl (by (try simp only [List.map_toArray, List.map_cons, List.map_nil]); first | done | rfl | (simp only [List.length_drop, List.length_take]; rfl)) ?_; (with_reducible refine (word_Alu.calls 28 a0 a1 t247 _ A54.out).mono ?_); rintro e w66 ⟨rfl, hb⟩; refine ⟨_, rfl, ?_⟩; have n0_ := Aside0.mk (below_step (by repeat (first | (with_reducible first | exact HB.out | apply below_alloc | apply pw_below_drewN | apply below_drew1) | exact HB.out)) hb); clear HB; have HB := n0_; clear n0_; (try clear hb); (try clear hb2); (try clear hk); (try clear hi)))
                go_ret
                exact ⟨by first | rfl | (simp [errW_none, errW_some] <;> rfl) | (simp [*, errW_none, errW_some] <;> rfl), by repeat (first | (with_reducible first | exact HB.out | apply below_alloc | apply pw_below_drewN | apply below_drew1) | exact HB.out)⟩
            · rw [if_neg c55] at H
              have c55b0 : (((((((t244) % 4294967296) * ((a1) % 4294967296)) % 4294967296) + ((t245) % 4294967296)) % 4294967296) == ((a0) % 4294967296)) = false := beq_eq_false_iff_ne.mpr c55
              have c55b1 : (((((((t244) % 4294967296) * ((a1) % 4294967296)) % 4294967296) + ((t245) % 4294967296)) % 4294967296) != ((a0) % 4294967296)) = true := bne_iff_ne.mpr c55
              obtain rfl := Option.some.inj H
              go_wp2_with (first | ((with_reducible refine gate_callee (f := 15) rfl ?_); refine goesL_ (some 73) rfl rfl Try.func15 (by kernel_rfl) rfl #[.int .i64 25, .int .u64 a0, .int .u64 a1] rfl (by (try simp only [List.map_toArray, List.map_cons, List.map_nil]); first | done | rfl | (simp only [List.length_drop, List.length_take]; rfl)) ?_; (with_reducible refine (word_Alu.calls 25 a0 a1 t244 _ A51.out).mono ?_); rintro e w67 ⟨rfl, hb⟩; refine ⟨_, rfl, ?_⟩; have n0_ := Aside0.mk (below_step (by repeat (first | (with_reducible first | exact HB.out | apply below_alloc | apply pw_below_drewN | apply below_drew1) | exact HB.out)) hb); clear HB; have HB := n0_; clear n0_; (try clear hb); (try clear hb2); (try clear hk); (try clear hi)) | ((with_reducible refine gate_callee (f := 15) rfl ?_); refine goesL_ (some 80) rfl rfl Try.func15 (by kernel_rfl) rfl #[.int .i64 27, .int .u64 a0, .int .u64 a1] rfl (by (try simp only [List.map_toArray, List.map_cons, List.map_nil]); first | done | rfl | (simp only [List.length_drop, List.length_take]; rfl)) ?_; (with_reducible refine (word_Alu.calls 27 a0 a1 t245 _ A52.out).mono ?_); rintro e w68 ⟨rfl, hb⟩; refine ⟨_, rfl, ?_⟩; have n0_ := Aside0.mk (below_step (by repeat (first | (with_reducible first | exact HB.out | apply below_alloc | apply pw_below_drewN | apply below_drew1) | exact HB.out)) hb); clear HB; have HB := n0_; clear n0_; (try clear hb); (try clear hb2); (try clear hk); (try clear hi)) | ((with_reducible refine gate_callee (f := 15) rfl ?_); refine goesL_ (some 85) rfl rfl Try.func15 (by kernel_rfl) rfl #[.int .i64 26, .int .u64 a0, .int .u64 a1] rfl (by (try simp only [List.map_toArray, List.map_cons, List.map_nil]); first | done | rfl | (simp only [List.length_drop, List.length_take]; rfl)) ?_; (with_reducible refine (word_Alu.calls 26 a0 a1 t246 _ A53.out).mono ?_); rintro e w69 ⟨rfl, hb⟩; refine ⟨_, rfl, ?_⟩; have n0_ := Aside0.mk (below_step (by repeat (first | (with_reducible first | exact HB.out | apply below_alloc | apply pw_below_drewN | apply below_drew1) | exact HB.out)) hb); clear HB; have HB := n0_; clear n0_; (try clear hb); (try clear hb2); (try clear hk); (try clear hi)) | ((with_reducible refine gate_callee (f := 15) rfl ?_); refine goesL_ (some 92) rfl rfl Try.func15 (by kernel_rfl) rfl #[.int .i64 28, .int .u64 a0, .int .u64 a1] rfl (by (try simp only [List.map_toArray, List.map_cons, List.map_nil]); first | done | rfl | (simp only [List.length_drop, List.length_take]; rfl)) ?_; (with_reducible refine (word_Alu.calls 28 a0 a1 t247 _ A54.out).mono ?_); rintro e w70 ⟨rfl, hb⟩; refine ⟨_, rfl, ?_⟩; have n0_ := Aside0.mk (below_step (by repeat (first | (with_reducible first | exact HB.out | apply below_alloc | apply pw_below_drewN | apply below_drew1) | exact HB.out)) hb); clear HB; have HB := n0_; clear n0_; (try clear hb); (try clear hb2); (try clear hk); (try clear hi)))
              go_ret
              exact ⟨by first | rfl | (simp [errW_none, errW_some] <;> rfl) | (simp [*, errW_none, errW_some] <;> rfl), by repeat (first | (with_reducible first | exact HB.out | apply below_alloc | apply pw_below_drewN | apply below_drew1) | exact HB.out)⟩

/-- THE ONE PURE STATEMENT of citadellaw01_WordDivides: yours. -/
def citadellaw01_WordDivides.Pure : Prop := ∀ (a0 : Int) (a1 : Int), (Lit.int .u64 a0).wf = true → (Lit.int .u64 a1).wf = true → ∃ k, citadellaw01_WordDivides.f k a0 a1 = some true
theorem citadellaw01_WordDivides.walk (P : citadellaw01_WordDivides.Pure) (a0 : Int) (a1 : Int) (w : World) (w0 : (Lit.int .u64 a0).wf = true) (w1 : (Lit.int .u64 a1).wf = true) :
    Calls Try.prog 6 #[.int .u64 a0, .int .u64 a1] w fun e w' => e = .returned (.bool true) ∧ Below w.heap.size w w' := by
  obtain ⟨k, h⟩ := P a0 a1 w0 w1
  refine (citadellaw01_WordDivides.calls k a0 a1 true w h).mono ?_
  rintro e w' ⟨rfl, hd⟩
  exact ⟨rfl, hd⟩

/-! ### citadellaw01_WordProducts: function 7 -/
mutual
def citadellaw01_WordProducts.j0 : Nat → Int → Int → Int → Int → Int → Option (Bool)
  | 0, _, _, _, _, _ => none
  | k + 1, x0, x1, x2, x7, x8 => (word_Alu.f 11 x0 (IntKind.u64.wrap (x1 + x2))).bind fun t253 => (if x7 = t253 then ((word_Alu.f 14 x0 x1).bind fun t254 => ((word_Alu.f 14 x0 x2).bind fun t255 => ((word_Alu.f 14 x0 (IntKind.u64.wrap (x1 + x2))).bind fun t256 => (citadellaw01_WordProducts.j1 k x0 x1 ((IntKind.u64.wrap ((IntKind.u64.wrap (t254 + t255)) + x8)) != t256))))) else (citadellaw01_WordProducts.j1 k x0 x1 true))
def citadellaw01_WordProducts.j1 : Nat → Int → Int → Bool → Option (Bool)
  | 0, _, _, _ => none
  | k + 1, x0, x1, x53 => if x53 = true then (some false) else ((word_Alu.f 14 x0 x1).bind fun t257 => (if x0 ≥ 9223372036854775808 then (citadellaw01_WordProducts.j2 k x0 x1 (IntKind.u64.wrap (t257 - x1))) else (citadellaw01_WordProducts.j2 k x0 x1 t257)))
def citadellaw01_WordProducts.j2 : Nat → Int → Int → Int → Option (Bool)
  | 0, _, _, _ => none
  | k + 1, x0, x1, x10 => if x1 ≥ 9223372036854775808 then ((word_Alu.f 13 x0 x1).bind fun t258 => (if t258 = x10 then ((word_Alu.f 12 x0 x1).bind fun t259 => (if t259 = (IntKind.u64.wrap (x10 - x0)) then ((citadellaw01_awake.f).bind fun t260 => (some t260)) else (some false))) else (some false))) else ((word_Alu.f 13 x0 x1).bind fun t261 => (if t261 = x10 then ((word_Alu.f 12 x0 x1).bind fun t262 => (if t262 = x10 then ((citadellaw01_awake.f).bind fun t263 => (some t263)) else (some false))) else (some false)))
end
def citadellaw01_WordProducts.f (k : Nat) (a0 : Int) (a1 : Int) (a2 : Int) : Option (Bool) := if (IntKind.u64.wrap (a1 + a2)) < a1 then ((citadellaw01_awake.f).bind fun t249 => (some t249)) else ((word_Alu.f 11 a0 a1).bind fun t250 => ((word_Alu.f 11 a0 a2).bind fun t251 => ((word_Alu.f 11 a0 a1).bind fun t252 => (if (IntKind.u64.wrap (t250 + t251)) < t252 then (citadellaw01_WordProducts.j0 k a0 a1 a2 (IntKind.u64.wrap (t250 + t251)) 1) else (citadellaw01_WordProducts.j0 k a0 a1 a2 (IntKind.u64.wrap (t250 + t251)) 0)))))
theorem citadellaw01_WordProducts.mono_l : ∀ k, (∀ y0 y1 y2 y3 y4, LeO (citadellaw01_WordProducts.j0 k y0 y1 y2 y3 y4) (citadellaw01_WordProducts.j0 (k + 1) y0 y1 y2 y3 y4)) ∧ (∀ y0 y1 y2, LeO (citadellaw01_WordProducts.j1 k y0 y1 y2) (citadellaw01_WordProducts.j1 (k + 1) y0 y1 y2)) ∧ (∀ y0 y1 y2, LeO (citadellaw01_WordProducts.j2 k y0 y1 y2) (citadellaw01_WordProducts.j2 (k + 1) y0 y1 y2))
  | 0 => ⟨fun _ _ _ _ _ r h => by simp [citadellaw01_WordProducts.j0] at h, fun _ _ _ r h => by simp [citadellaw01_WordProducts.j1] at h, fun _ _ _ r h => by simp [citadellaw01_WordProducts.j2] at h⟩
  | k + 1 => by
    obtain ⟨ih0, ih1, ih2⟩ := citadellaw01_WordProducts.mono_l k
    refine ⟨?_, ?_, ?_⟩
    · intro y0 y1 y2 y3 y4
      unfold citadellaw01_WordProducts.j0
      repeat' first
      | (with_reducible exact ih0 _ _ _ _ _)
      | (with_reducible exact ih1 _ _ _)
      | (with_reducible exact ih2 _ _ _)
      | (with_reducible exact LeO.refl _)
      | (with_reducible exact LeO.none _)
      | (with_reducible refine LeO.ite ?_ ?_)
      | (with_reducible refine LeO.bind ?_ (fun _ => ?_))
      | exact ih0 _ _ _ _ _
      | exact ih1 _ _ _
      | exact ih2 _ _ _
      | exact LeO.none _
      | refine LeO.ite ?_ ?_
      | refine LeO.bind ?_ (fun _ => ?_)
    · intro y0 y1 y2
      unfold citadellaw01_WordProducts.j1
      repeat' first
      | (with_reducible exact ih0 _ _ _ _ _)
      | (with_reducible exact ih1 _ _ _)
      | (with_reducible exact ih2 _ _ _)
      | (with_reducible exact LeO.refl _)
      | (with_reducible exact LeO.none _)
      | (with_reducible refine LeO.ite ?_ ?_)
      | (with_reducible refine LeO.bind ?_ (fun _ => ?_))
      | exact ih0 _ _ _ _ _
      | exact ih1 _ _ _
      | exact ih2 _ _ _
      | exact LeO.none _
      | refine LeO.ite ?_ ?_
      | refine LeO.bind ?_ (fun _ => ?_)
    · intro y0 y1 y2
      unfold citadellaw01_WordProducts.j2
      repeat' first
      | (with_reducible exact ih0 _ _ _ _ _)
      | (with_reducible exact ih1 _ _ _)
      | (with_reducible exact ih2 _ _ _)
      | (with_reducible exact LeO.refl _)
      | (with_reducible exact LeO.none _)
      | (with_reducible refine LeO.ite ?_ ?_)
      | (with_reducible refine LeO.bind ?_ (fun _ => ?_))
      | exact ih0 _ _ _ _ _
      | exact ih1 _ _ _
      | exact ih2 _ _ _
      | exact LeO.none _
      | refine LeO.ite ?_ ?_
      | refine LeO.bind ?_ (fun _ => ?_)
theorem citadellaw01_WordProducts.mono : ∀ a0 a1 a2 k, LeO (citadellaw01_WordProducts.f k a0 a1 a2) (citadellaw01_WordProducts.f (k + 1) a0 a1 a2) := by
  intro a0 a1 a2 k
  obtain ⟨ih0, ih1, ih2⟩ := citadellaw01_WordProducts.mono_l k
  unfold citadellaw01_WordProducts.f
  repeat' first
      | (with_reducible exact ih0 _ _ _ _ _)
      | (with_reducible exact ih1 _ _ _)
      | (with_reducible exact ih2 _ _ _)
      | (with_reducible exact LeO.refl _)
      | (with_reducible exact LeO.none _)
      | (with_reducible refine LeO.ite ?_ ?_)
      | (with_reducible refine LeO.bind ?_ (fun _ => ?_))
      | exact ih0 _ _ _ _ _
      | exact ih1 _ _ _
      | exact ih2 _ _ _
      | exact LeO.none _
      | refine LeO.ite ?_ ?_
      | refine LeO.bind ?_ (fun _ => ?_)
set_option maxHeartbeats 8000000 in
set_option maxRecDepth 100000 in
theorem citadellaw01_WordProducts.calls (k : Nat) (a0 : Int) (a1 : Int) (a2 : Int) (r : Bool) (w : World) (h : citadellaw01_WordProducts.f k a0 a1 a2 = some r) :
    Calls Try.prog 7 #[.int .u64 a0, .int .u64 a1, .int .u64 a2] w fun e w' => e = .returned (.bool r) ∧ Below w.heap.size w w' := by
  have HB := Aside0.mk (Below.refl w.heap.size w)
  have H : (if (IntKind.u64.wrap (a1 + a2)) < a1 then ((citadellaw01_awake.f).bind fun t249 => (some t249)) else ((word_Alu.f 11 a0 a1).bind fun t250 => ((word_Alu.f 11 a0 a2).bind fun t251 => ((word_Alu.f 11 a0 a1).bind fun t252 => (if (IntKind.u64.wrap (t250 + t251)) < t252 then (citadellaw01_WordProducts.j0 k a0 a1 a2 (IntKind.u64.wrap (t250 + t251)) 1) else (citadellaw01_WordProducts.j0 k a0 a1 a2 (IntKind.u64.wrap (t250 + t251)) 0)))))) = some r := h
  clear h
  by_cases c4 : (IntKind.u64.wrap (a1 + a2)) < a1
  · rw [if_pos c4] at H
    have c4b0 : decide ((IntKind.u64.wrap (a1 + a2)) < a1) = true := decide_eq_true c4
    clear c4
    replace H := Option.bind_eq_some_iff.mp H
    obtain ⟨t249, A50, H⟩ := H
    replace H : (some t249) = some r := H
    have A5 := Aside0.mk A50
    clear A50
    obtain rfl := Option.some.inj H
    go_enter Try.func7, Try.ntmps7
    go_wp2_with (first | ((with_reducible refine gate_callee (f := 17) rfl ?_); refine goesL_ (some 17) rfl rfl Try.func17 (by kernel_rfl) rfl #[] rfl (by (try simp only [List.map_toArray, List.map_cons, List.map_nil]); first | done | rfl | (simp only [List.length_drop, List.length_take]; rfl)) ?_; (with_reducible refine (citadellaw01_awake.calls  t249 _ A5.out).mono ?_); rintro e w6 ⟨rfl, hb⟩; refine ⟨_, rfl, ?_⟩; have n0_ := Aside0.mk (below_step (by repeat (first | (with_reducible first | exact HB.out | apply below_alloc | apply pw_below_drewN | apply below_drew1) | exact HB.out)) hb); clear HB; have HB := n0_; clear n0_; (try clear hb); (try clear hb2); (try clear hk); (try clear hi)))
    go_ret
    exact ⟨by first | rfl | (simp [errW_none, errW_some] <;> rfl) | (simp [*, errW_none, errW_some] <;> rfl), by repeat (first | (with_reducible first | exact HB.out | apply below_alloc | apply pw_below_drewN | apply below_drew1) | exact HB.out)⟩
  · rw [if_neg c4] at H
    have c4b0 : decide ((IntKind.u64.wrap (a1 + a2)) < a1) = false := decide_eq_false c4
    clear c4
    replace H := Option.bind_eq_some_iff.mp H
    obtain ⟨t250, A70, H⟩ := H
    replace H : ((word_Alu.f 11 a0 a2).bind fun t251 => ((word_Alu.f 11 a0 a1).bind fun t252 => (if (IntKind.u64.wrap (t250 + t251)) < t252 then (citadellaw01_WordProducts.j0 k a0 a1 a2 (IntKind.u64.wrap (t250 + t251)) 1) else (citadellaw01_WordProducts.j0 k a0 a1 a2 (IntKind.u64.wrap (t250 + t251)) 0)))) = some r := H
    have A7 := Aside0.mk A70
    clear A70
    replace H := Option.bind_eq_some_iff.mp H
    obtain ⟨t251, A80, H⟩ := H
    replace H : ((word_Alu.f 11 a0 a1).bind fun t252 => (if (IntKind.u64.wrap (t250 + t251)) < t252 then (citadellaw01_WordProducts.j0 k a0 a1 a2 (IntKind.u64.wrap (t250 + t251)) 1) else (citadellaw01_WordProducts.j0 k a0 a1 a2 (IntKind.u64.wrap (t250 + t251)) 0))) = some r := H
    have A8 := Aside0.mk A80
    clear A80
    replace H := Option.bind_eq_some_iff.mp H
    obtain ⟨t252, A90, H⟩ := H
    replace H : (if (IntKind.u64.wrap (t250 + t251)) < t252 then (citadellaw01_WordProducts.j0 k a0 a1 a2 (IntKind.u64.wrap (t250 + t251)) 1) else (citadellaw01_WordProducts.j0 k a0 a1 a2 (IntKind.u64.wrap (t250 + t251)) 0)) = some r := H
    have A9 := Aside0.mk A90
    clear A90
    have HC10 := Aside0.mk H
    clear H
    go_enter Try.func7, Try.ntmps7
    go_upto_if 29 with (first | ((with_reducible refine gate_callee (f := 15) rfl ?_); refine goesL_ (some 20) rfl rfl Try.func15 (by kernel_rfl) rfl #[.int .i64 11, .int .u64 a0, .int .u64 a1] rfl (by (try simp only [List.map_toArray, List.map_cons, List.map_nil]); first | done | rfl | (simp only [List.length_drop, List.length_take]; rfl)) ?_; (with_reducible refine (word_Alu.calls 11 a0 a1 t250 _ A7.out).mono ?_); rintro e w11 ⟨rfl, hb⟩; refine ⟨_, rfl, ?_⟩; have n0_ := Aside0.mk (below_step (by repeat (first | (with_reducible first | exact HB.out | apply below_alloc | apply pw_below_drewN | apply below_drew1) | exact HB.out)) hb); clear HB; have HB := n0_; clear n0_; (try clear hb); (try clear hb2); (try clear hk); (try clear hi)) | ((with_reducible refine gate_callee (f := 15) rfl ?_); refine goesL_ (some 23) rfl rfl Try.func15 (by kernel_rfl) rfl #[.int .i64 11, .int .u64 a0, .int .u64 a2] rfl (by (try simp only [List.map_toArray, List.map_cons, List.map_nil]); first | done | rfl | (simp only [List.length_drop, List.length_take]; rfl)) ?_; (with_reducible refine (word_Alu.calls 11 a0 a2 t251 _ A8.out).mono ?_); rintro e w12 ⟨rfl, hb⟩; refine ⟨_, rfl, ?_⟩; have n0_ := Aside0.mk (below_step (by repeat (first | (with_reducible first | exact HB.out | apply below_alloc | apply pw_below_drewN | apply below_drew1) | exact HB.out)) hb); clear HB; have HB := n0_; clear n0_; (try clear hb); (try clear hb2); (try clear hk); (try clear hi)) | ((with_reducible refine gate_callee (f := 15) rfl ?_); refine goesL_ (some 28) rfl rfl Try.func15 (by kernel_rfl) rfl #[.int .i64 11, .int .u64 a0, .int .u64 a1] rfl (by (try simp only [List.map_toArray, List.map_cons, List.map_nil]); first | done | rfl | (simp only [List.length_drop, List.length_take]; rfl)) ?_; (with_reducible refine (word_Alu.calls 11 a0 a1 t252 _ A9.out).mono ?_); rintro e w13 ⟨rfl, hb⟩; refine ⟨_, rfl, ?_⟩; have n0_ := Aside0.mk (below_step (by repeat (first | (with_reducible first | exact HB.out | apply below_alloc | apply pw_below_drewN | apply below_drew1) | exact HB.out)) hb); clear HB; have HB := n0_; clear n0_; (try clear hb); (try clear hb2); (try clear hk); (try clear hi)))
    (try simp only [Act.put, List.setIfInBounds_toArray, List.set_cons_zero, List.set_cons_succ])
    go_cut [8] (fun v8 wc => ∃ (kq : Nat) (x8_9 : Int), v8 = .int .u64 x8_9 ∧ Aside0 (citadellaw01_WordProducts.j0 kq a0 a1 a2 (IntKind.u64.wrap (t250 + t251)) x8_9 = some r) ∧ Aside0 (kq ≤ k) ∧ Aside0 (Below w.heap.size w wc))
    case first =>
      have H := HC10.out
      clear HC10
      by_cases c14 : (IntKind.u64.wrap (t250 + t251)) < t252
      · rw [if_pos c14] at H
        have c14b0 : decide ((IntKind.u64.wrap (t250 + t251)) < t252) = true := decide_eq_true c14
        clear c14
        (first | rw [c14b0] | (simp only [i64_w, i32_w]; rw [c14b0]) | skip)
        have H' := Aside0.mk H
        clear H
        go_wp2
        go_meet
        case rel => exact ⟨_, (1), (by first | rfl | (simp; done) | (simp [*]; done)), H', ⟨by first | omega | exact Nat.le_refl _⟩, ⟨by repeat (first | (with_reducible first | exact HB.out | apply below_alloc | apply pw_below_drewN | apply below_drew1) | exact HB.out)⟩⟩
      · rw [if_neg c14] at H
        have c14b0 : decide ((IntKind.u64.wrap (t250 + t251)) < t252) = false := decide_eq_false c14
        clear c14
        (first | rw [c14b0] | (simp only [i64_w, i32_w]; rw [c14b0]) | skip)
        have H' := Aside0.mk H
        clear H
        go_wp2
        go_meet
        case rel => exact ⟨_, (0), (by first | rfl | (simp; done) | (simp [*]; done)), H', ⟨by first | omega | exact Nat.le_refl _⟩, ⟨by repeat (first | (with_reducible first | exact HB.out | apply below_alloc | apply pw_below_drewN | apply below_drew1) | exact HB.out)⟩⟩
    case rest =>
      clear HC10
      try clear c1
      try clear p2
      try clear c4
      try clear c4b0
      try clear c7
      try clear c14
      try clear c14b0
      obtain ⟨kq, x8_9, rfl, HA, HJ9, HB⟩ := hcut
      cases kq with
      | zero => exact absurd HA.out (by simp [citadellaw01_WordProducts.j0])
      | succ kj9 =>
        have H := HA.out
        clear HA
        simp only [citadellaw01_WordProducts.j0] at H
        have HC15 := Aside0.mk H
        clear H
        go_upto_region 7 with (fail)
        go_cut [53] (fun v53 wc => ∃ (kq : Nat) (x53_14 : Bool), v53 = .bool x53_14 ∧ Aside0 (citadellaw01_WordProducts.j1 kq a0 a1 x53_14 = some r) ∧ Aside0 (kq ≤ kj9) ∧ Aside0 (Below w.heap.size w wc))
        case first =>
          have H := HC15.out
          clear HC15
          replace H := Option.bind_eq_some_iff.mp H
          obtain ⟨t253, A160, H⟩ := H
          replace H : (if (IntKind.u64.wrap (t250 + t251)) = t253 then ((word_Alu.f 14 a0 a1).bind fun t254 => ((word_Alu.f 14 a0 a2).bind fun t255 => ((word_Alu.f 14 a0 (IntKind.u64.wrap (a1 + a2))).bind fun t256 => (citadellaw01_WordProducts.j1 kj9 a0 a1 ((IntKind.u64.wrap ((IntKind.u64.wrap (t254 + t255)) + x8_9)) != t256))))) else (citadellaw01_WordProducts.j1 kj9 a0 a1 true)) = some r := H
          have A16 := Aside0.mk A160
          clear A160
          by_cases c17 : (IntKind.u64.wrap (t250 + t251)) = t253
          · rw [if_pos c17] at H
            have c17b0 : ((IntKind.u64.wrap (t250 + t251)) == t253) = true := beq_iff_eq.mpr c17
            have c17b1 : ((IntKind.u64.wrap (t250 + t251)) != t253) = false := bne_eq_false_iff_eq.mpr c17
            clear c17
            (first | rw [c17b0] | (simp only [i64_w, i32_w]; rw [c17b0]) | skip)
            replace H := Option.bind_eq_some_iff.mp H
            obtain ⟨t254, A180, H⟩ := H
            replace H : ((word_Alu.f 14 a0 a2).bind fun t255 => ((word_Alu.f 14 a0 (IntKind.u64.wrap (a1 + a2))).bind fun t256 => (citadellaw01_WordProducts.j1 kj9 a0 a1 ((IntKind.u64.wrap ((IntKind.u64.wrap (t254 + t255)) + x8_9)) != t256)))) = some r := H
            have A18 := Aside0.mk A180
            clear A180
            replace H := Option.bind_eq_some_iff.mp H
            obtain ⟨t255, A190, H⟩ := H
            replace H : ((word_Alu.f 14 a0 (IntKind.u64.wrap (a1 + a2))).bind fun t256 => (citadellaw01_WordProducts.j1 kj9 a0 a1 ((IntKind.u64.wrap ((IntKind.u64.wrap (t254 + t255)) + x8_9)) != t256))) = some r := H
            have A19 := Aside0.mk A190
            clear A190
            replace H := Option.bind_eq_some_iff.mp H
            obtain ⟨t256, A200, H⟩ := H
            replace H : (citadellaw01_WordProducts.j1 kj9 a0 a1 ((IntKind.u64.wrap ((IntKind.u64.wrap (t254 + t255)) + x8_9)) != t256)) = some r := H
            have A20 := Aside0.mk A200
            clear A200
            have H' := Aside0.mk H
            clear H
            go_wp2_with (first | ((with_reducible refine gate_callee (f := 15) rfl ?_); refine goesL_ (some 35) rfl rfl Try.func15 (by kernel_rfl) rfl #[.int .i64 11, .int .u64 a0, .int .u64 (IntKind.u64.wrap (a1 + a2))] rfl (by (try simp only [List.map_toArray, List.map_cons, List.map_nil]); first | done | rfl | (simp only [List.length_drop, List.length_take]; rfl)) ?_; (with_reducible refine (word_Alu.calls 11 a0 (IntKind.u64.wrap (a1 + a2)) t253 _ A16.out).mono ?_); rintro e w21 ⟨rfl, hb⟩; refine ⟨_, rfl, ?_⟩; have n0_ := Aside0.mk (below_step (by repeat (first | (with_reducible first | exact HB.out | apply below_alloc | apply pw_below_drewN | apply below_drew1) | exact HB.out)) hb); clear HB; have HB := n0_; clear n0_; (try clear hb); (try clear hb2); (try clear hk); (try clear hi)) | (go_at_call 15; (with_reducible refine (word_Alu.calls 14 a0 a1 t254 _ A18.out).mono ?_); rintro e w22 ⟨rfl, hb⟩; have n0_ := Aside0.mk (below_step (by repeat (first | (with_reducible first | exact HB.out | apply below_alloc | apply pw_below_drewN | apply below_drew1) | exact HB.out)) hb); clear HB; have HB := n0_; clear n0_; (try clear hb); (try clear hb2); (try clear hk); (try clear hi)) | (go_at_call 15; (with_reducible refine (word_Alu.calls 14 a0 a2 t255 _ A19.out).mono ?_); rintro e w23 ⟨rfl, hb⟩; have n0_ := Aside0.mk (below_step (by repeat (first | (with_reducible first | exact HB.out | apply below_alloc | apply pw_below_drewN | apply below_drew1) | exact HB.out)) hb); clear HB; have HB := n0_; clear n0_; (try clear hb); (try clear hb2); (try clear hk); (try clear hi)) | (go_at_call 15; (with_reducible refine (word_Alu.calls 14 a0 (IntKind.u64.wrap (a1 + a2)) t256 _ A20.out).mono ?_); rintro e w24 ⟨rfl, hb⟩; have n0_ := Aside0.mk (below_step (by repeat (first | (with_reducible first | exact HB.out | apply below_alloc | apply pw_below_drewN | apply below_drew1) | exact HB.out)) hb); clear HB; have HB := n0_; clear n0_; (try clear hb); (try clear hb2); (try clear hk); (try clear hi)))
            go_meet
            case rel => exact ⟨_, (((IntKind.u64.wrap ((IntKind.u64.wrap (t254 + t255)) + x8_9)) != t256)), (by first | rfl | (simp; done) | (simp [*]; done)), H', ⟨by have := HJ9.out; first | omega | exact Nat.le_refl _⟩, ⟨by repeat (first | (with_reducible first | exact HB.out | apply below_alloc | apply pw_below_drewN | apply below_drew1) | exact HB.out)⟩⟩
          · rw [if_neg c17] at H
            have c17b0 : ((IntKind.u64.wrap (t250 + t251)) == t253) = false := beq_eq_false_iff_ne.mpr c17
            have c17b1 : ((IntKind.u64.wrap (t250 + t251)) != t253) = true := bne_iff_ne.mpr c17
            (first | rw [c17b0] | (simp only [i64_w, i32_w]; rw [c17b0]) | skip)
            have H' := Aside0.mk H
            clear H
            go_wp2_with (first | ((with_reducible refine gate_callee (f := 15) rfl ?_); refine goesL_ (some 35) rfl rfl Try.func15 (by kernel_rfl) rfl #[.int .i64 11, .int .u64 a0, .int .u64 (IntKind.u64.wrap (a1 + a2))] rfl (by (try simp only [List.map_toArray, List.map_cons, List.map_nil]); first | done | rfl | (simp only [List.length_drop, List.length_take]; rfl)) ?_; (with_reducible refine (word_Alu.calls 11 a0 (IntKind.u64.wrap (a1 + a2)) t253 _ A16.out).mono ?_); rintro e w25 ⟨rfl, hb⟩; refine ⟨_, rfl, ?_⟩; have n0_ := Aside0.mk (below_step (by repeat (first | (with_reducible first | exact HB.out | apply below_alloc | apply pw_below_drewN | apply below_drew1) | exact HB.out)) hb); clear HB; have HB := n0_; clear n0_; (try clear hb); (try clear hb2); (try clear hk); (try clear hi)))
            go_meet
            case rel => exact ⟨_, (true), (by first | rfl | (simp; done) | (simp [*]; done)), H', ⟨by have := HJ9.out; first | omega | exact Nat.le_refl _⟩, ⟨by repeat (first | (with_reducible first | exact HB.out | apply below_alloc | apply pw_below_drewN | apply below_drew1) | exact HB.out)⟩⟩
        case rest =>
          clear HC15
          try clear c1
          try clear p2
          try clear c4
          try clear c4b0
          try clear c7
          try clear c14
          try clear c14b0
          try clear c15
          try clear c17
          try clear c17b0
          try clear c17b1
          try clear p2
          obtain ⟨kq, x53_14, rfl, HA, HJ14, HB⟩ := hcut
          cases kq with
          | zero => exact absurd HA.out (by simp [citadellaw01_WordProducts.j1])
          | succ kj14 =>
            have H := HA.out
            clear HA
            simp only [citadellaw01_WordProducts.j1] at H
            by_cases c26 : x53_14 = true
            · subst c26
              have H1 : (some false) = some r := by rw [if_pos rfl] at H; exact H
              clear H
              have H := H1
              clear H1
              obtain rfl := Option.some.inj H
              go_wp2
              go_ret
              exact ⟨by first | rfl | (simp [errW_none, errW_some] <;> rfl) | (simp [*, errW_none, errW_some] <;> rfl), by repeat (first | (with_reducible first | exact HB.out | apply below_alloc | apply pw_below_drewN | apply below_drew1) | exact HB.out)⟩
            · replace c26 := Bool.eq_false_iff.mpr c26
              subst c26
              have H1 : ((word_Alu.f 14 a0 a1).bind fun t257 => (if a0 ≥ 9223372036854775808 then (citadellaw01_WordProducts.j2 kj14 a0 a1 (IntKind.u64.wrap (t257 - a1))) else (citadellaw01_WordProducts.j2 kj14 a0 a1 t257))) = some r := by rw [if_neg (show ¬ (false = true) by decide)] at H; exact H
              clear H
              have H := H1
              clear H1
              replace H := Option.bind_eq_some_iff.mp H
              obtain ⟨t257, A270, H⟩ := H
              replace H : (if a0 ≥ 9223372036854775808 then (citadellaw01_WordProducts.j2 kj14 a0 a1 (IntKind.u64.wrap (t257 - a1))) else (citadellaw01_WordProducts.j2 kj14 a0 a1 t257)) = some r := H
              have A27 := Aside0.mk A270
              clear A270
              have HC28 := Aside0.mk H
              clear H
              go_upto_if 59 with (first | ((with_reducible refine gate_callee (f := 15) rfl ?_); refine goesL_ (some 56) rfl rfl Try.func15 (by kernel_rfl) rfl #[.int .i64 14, .int .u64 a0, .int .u64 a1] rfl (by (try simp only [List.map_toArray, List.map_cons, List.map_nil]); first | done | rfl | (simp only [List.length_drop, List.length_take]; rfl)) ?_; (with_reducible refine (word_Alu.calls 14 a0 a1 t257 _ A27.out).mono ?_); rintro e w29 ⟨rfl, hb⟩; refine ⟨_, rfl, ?_⟩; have n0_ := Aside0.mk (below_step (by repeat (first | (with_reducible first | exact HB.out | apply below_alloc | apply pw_below_drewN | apply below_drew1) | exact HB.out)) hb); clear HB; have HB := n0_; clear n0_; (try clear hb); (try clear hb2); (try clear hk); (try clear hi)))
              (try simp only [Act.put, List.setIfInBounds_toArray, List.set_cons_zero, List.set_cons_succ])
              go_cut [10] (fun v10 wc => ∃ (kq : Nat) (x10_27 : Int), v10 = .int .u64 x10_27 ∧ Aside0 (citadellaw01_WordProducts.j2 kq a0 a1 x10_27 = some r) ∧ Aside0 (kq ≤ kj14) ∧ Aside0 (Below w.heap.size w wc))
              case first =>
                have H := HC28.out
                clear HC28
                by_cases c30 : a0 ≥ 9223372036854775808
                · rw [if_pos c30] at H
                  have c30b0 : decide (9223372036854775808 ≤ a0) = true := decide_eq_true c30
                  clear c30
                  (first | rw [c30b0] | (simp only [i64_w, i32_w]; rw [c30b0]) | skip)
                  have H' := Aside0.mk H
                  clear H
                  go_wp2
                  go_meet
                  case rel => exact ⟨_, (IntKind.u64.wrap (t257 - a1)), (by first | rfl | (simp; done) | (simp [*]; done)), H', ⟨by have := HJ9.out; have := HJ14.out; first | omega | exact Nat.le_refl _⟩, ⟨by repeat (first | (with_reducible first | exact HB.out | apply below_alloc | apply pw_below_drewN | apply below_drew1) | exact HB.out)⟩⟩
                · rw [if_neg c30] at H
                  have c30b0 : decide (9223372036854775808 ≤ a0) = false := decide_eq_false c30
                  clear c30
                  (first | rw [c30b0] | (simp only [i64_w, i32_w]; rw [c30b0]) | skip)
                  have H' := Aside0.mk H
                  clear H
                  go_wp2
                  go_meet
                  case rel => exact ⟨_, (t257), (by first | rfl | (simp; done) | (simp [*]; done)), H', ⟨by have := HJ9.out; have := HJ14.out; first | omega | exact Nat.le_refl _⟩, ⟨by repeat (first | (with_reducible first | exact HB.out | apply below_alloc | apply pw_below_drewN | apply below_drew1) | exact HB.out)⟩⟩
              case rest =>
                clear HC28
                try clear c1
                try clear c2
                try clear p2
                try clear c3
                try clear c4
                try clear c4b0
                try clear c7
                try clear c14
                try clear c14b0
                try clear c15
                try clear c17
                try clear c17b0
                try clear c17b1
                try clear c26
                try clear c30
                try clear c30b0
                try clear p2
                obtain ⟨kq, x10_27, rfl, HA, HJ27, HB⟩ := hcut
                cases kq with
                | zero => exact absurd HA.out (by simp [citadellaw01_WordProducts.j2])
                | succ kj27 =>
                  have H := HA.out
                  clear HA
                  simp only [citadellaw01_WordProducts.j2] at H
                  by_cases c31 : a1 ≥ 9223372036854775808
                  · rw [if_pos c31] at H
                    have c31b0 : decide (9223372036854775808 ≤ a1) = true := decide_eq_true c31
                    clear c31
                    replace H := Option.bind_eq_some_iff.mp H
                    obtain ⟨t258, A320, H⟩ := H
                    replace H : (if t258 = x10_27 then ((word_Alu.f 12 a0 a1).bind fun t259 => (if t259 = (IntKind.u64.wrap (x10_27 - a0)) then ((citadellaw01_awake.f).bind fun t260 => (some t260)) else (some false))) else (some false)) = some r := H
                    have A32 := Aside0.mk A320
                    clear A320
                    by_cases c33 : t258 = x10_27
                    · rw [if_pos c33] at H
                      have c33b0 : (t258 == x10_27) = true := beq_iff_eq.mpr c33
                      have c33b1 : (t258 != x10_27) = false := bne_eq_false_iff_eq.mpr c33
                      clear c33
                      replace H := Option.bind_eq_some_iff.mp H
                      obtain ⟨t259, A340, H⟩ := H
                      replace H : (if t259 = (IntKind.u64.wrap (x10_27 - a0)) then ((citadellaw01_awake.f).bind fun t260 => (some t260)) else (some false)) = some r := H
                      have A34 := Aside0.mk A340
                      clear A340
                      by_cases c35 : t259 = (IntKind.u64.wrap (x10_27 - a0))
                      · rw [if_pos c35] at H
                        have c35b0 : (t259 == (IntKind.u64.wrap (x10_27 - a0))) = true := beq_iff_eq.mpr c35
                        have c35b1 : (t259 != (IntKind.u64.wrap (x10_27 - a0))) = false := bne_eq_false_iff_eq.mpr c35
                        clear c35
                        replace H := Option.bind_eq_some_iff.mp H
                        obtain ⟨t260, A360, H⟩ := H
                        replace H : (some t260) = some r := H
                        have A36 := Aside0.mk A360
                        clear A360
                        obtain rfl := Option.some.inj H
                        go_wp2_with (first | ((with_reducible refine gate_callee (f := 15) rfl ?_); refine goesL_ (some 71) rfl rfl Try.func15 (by kernel_rfl) rfl #[.int .i64 13, .int .u64 a0, .int .u64 a1] rfl (by (try simp only [List.map_toArray, List.map_cons, List.map_nil]); first | done | rfl | (simp only [List.length_drop, List.length_take]; rfl)) ?_; (with_reducible refine (word_Alu.calls 13 a0 a1 t258 _ A32.out).mono ?_); rintro e w37 ⟨rfl, hb⟩; refine ⟨_, rfl, ?_⟩; have n0_ := Aside0.mk (below_step (by repeat (first | (with_reducible first | exact HB.out | apply below_alloc | apply pw_below_drewN | apply below_drew1) | exact HB.out)) hb); clear HB; have HB := n0_; clear n0_; (try clear hb); (try clear hb2); (try clear hk); (try clear hi)) | (go_at_call 15; (with_reducible refine (word_Alu.calls 12 a0 a1 t259 _ A34.out).mono ?_); rintro e w38 ⟨rfl, hb⟩; have n0_ := Aside0.mk (below_step (by repeat (first | (with_reducible first | exact HB.out | apply below_alloc | apply pw_below_drewN | apply below_drew1) | exact HB.out)) hb); clear HB; have HB := n0_; clear n0_; (try clear hb); (try clear hb2); (try clear hk); (try clear hi)) | (go_at_call 17; (with_reducible refine (citadellaw01_awake.calls  t260 _ A36.out).mono ?_); rintro e w39 ⟨rfl, hb⟩; have n0_ := Aside0.mk (below_step (by repeat (first | (with_reducible first | exact HB.out | apply below_alloc | apply pw_below_drewN | apply below_drew1) | exact HB.out)) hb); clear HB; have HB := n0_; clear n0_; (try clear hb); (try clear hb2); (try clear hk); (try clear hi)))
                        go_ret
                        exact ⟨by first | rfl | (simp [errW_none, errW_some] <;> rfl) | (simp [*, errW_none, errW_some] <;> rfl), by repeat (first | (with_reducible first | exact HB.out | apply below_alloc | apply pw_below_drewN | apply below_drew1) | exact HB.out)⟩
                      · rw [if_neg c35] at H
                        have c35b0 : (t259 == (IntKind.u64.wrap (x10_27 - a0))) = false := beq_eq_false_iff_ne.mpr c35
                        have c35b1 : (t259 != (IntKind.u64.wrap (x10_27 - a0))) = true := bne_iff_ne.mpr c35
                        obtain rfl := Option.some.inj H
                        go_wp2_with (first | ((with_reducible refine gate_callee (f := 15) rfl ?_); refine goesL_ (some 71) rfl rfl Try.func15 (by kernel_rfl) rfl #[.int .i64 13, .int .u64 a0, .int .u64 a1] rfl (by (try simp only [List.map_toArray, List.map_cons, List.map_nil]); first | done | rfl | (simp only [List.length_drop, List.length_take]; rfl)) ?_; (with_reducible refine (word_Alu.calls 13 a0 a1 t258 _ A32.out).mono ?_); rintro e w40 ⟨rfl, hb⟩; refine ⟨_, rfl, ?_⟩; have n0_ := Aside0.mk (below_step (by repeat (first | (with_reducible first | exact HB.out | apply below_alloc | apply pw_below_drewN | apply below_drew1) | exact HB.out)) hb); clear HB; have HB := n0_; clear n0_; (try clear hb); (try clear hb2); (try clear hk); (try clear hi)) | (go_at_call 15; (with_reducible refine (word_Alu.calls 12 a0 a1 t259 _ A34.out).mono ?_); rintro e w41 ⟨rfl, hb⟩; have n0_ := Aside0.mk (below_step (by repeat (first | (with_reducible first | exact HB.out | apply below_alloc | apply pw_below_drewN | apply below_drew1) | exact HB.out)) hb); clear HB; have HB := n0_; clear n0_; (try clear hb); (try clear hb2); (try clear hk); (try clear hi)))
                        go_ret
                        exact ⟨by first | rfl | (simp [errW_none, errW_some] <;> rfl) | (simp [*, errW_none, errW_some] <;> rfl), by repeat (first | (with_reducible first | exact HB.out | apply below_alloc | apply pw_below_drewN | apply below_drew1) | exact HB.out)⟩
                    · rw [if_neg c33] at H
                      have c33b0 : (t258 == x10_27) = false := beq_eq_false_iff_ne.mpr c33
                      have c33b1 : (t258 != x10_27) = true := bne_iff_ne.mpr c33
                      obtain rfl := Option.some.inj H
                      go_wp2_with (first | ((with_reducible refine gate_callee (f := 15) rfl ?_); refine goesL_ (some 71) rfl rfl Try.func15 (by kernel_rfl) rfl #[.int .i64 13, .int .u64 a0, .int .u64 a1] rfl (by (try simp only [List.map_toArray, List.map_cons, List.map_nil]); first | done | rfl | (simp only [List.length_drop, List.length_take]; rfl)) ?_; (with_reducible refine (word_Alu.calls 13 a0 a1 t258 _ A32.out).mono ?_); rintro e w42 ⟨rfl, hb⟩; refine ⟨_, rfl, ?_⟩; have n0_ := Aside0.mk (below_step (by repeat (first | (with_reducible first | exact HB.out | apply below_alloc | apply pw_below_drewN | apply below_drew1) | exact HB.out)) hb); clear HB; have HB := n0_; clear n0_; (try clear hb); (try clear hb2); (try clear hk); (try clear hi)))
                      go_ret
                      exact ⟨by first | rfl | (simp [errW_none, errW_some] <;> rfl) | (simp [*, errW_none, errW_some] <;> rfl), by repeat (first | (with_reducible first | exact HB.out | apply below_alloc | apply pw_below_drewN | apply below_drew1) | exact HB.out)⟩
                  · rw [if_neg c31] at H
                    have c31b0 : decide (9223372036854775808 ≤ a1) = false := decide_eq_false c31
                    clear c31
                    replace H := Option.bind_eq_some_iff.mp H
                    obtain ⟨t261, A430, H⟩ := H
                    replace H : (if t261 = x10_27 then ((word_Alu.f 12 a0 a1).bind fun t262 => (if t262 = x10_27 then ((citadellaw01_awake.f).bind fun t263 => (some t263)) else (some false))) else (some false)) = some r := H
                    have A43 := Aside0.mk A430
                    clear A430
                    by_cases c44 : t261 = x10_27
                    · rw [if_pos c44] at H
                      have c44b0 : (t261 == x10_27) = true := beq_iff_eq.mpr c44
                      have c44b1 : (t261 != x10_27) = false := bne_eq_false_iff_eq.mpr c44
                      clear c44
                      replace H := Option.bind_eq_some_iff.mp H
                      obtain ⟨t262, A450, H⟩ := H
                      replace H : (if t262 = x10_27 then ((citadellaw01_awake.f).bind fun t263 => (some t263)) else (some false)) = some r := H
                      have A45 := Aside0.mk A450
                      clear A450
                      by_cases c46 : t262 = x10_27
                      · rw [if_pos c46] at H
                        have c46b0 : (t262 == x10_27) = true := beq_iff_eq.mpr c46
                        have c46b1 : (t262 != x10_27) = false := bne_eq_false_iff_eq.mpr c46
                        clear c46
                        replace H := Option.bind_eq_some_iff.mp H
                        obtain ⟨t263, A470, H⟩ := H
                        replace H : (some t263) = some r := H
                        have A47 := Aside0.mk A470
                        clear A470
                        obtain rfl := Option.some.inj H
                        go_wp2_with (first | ((with_reducible refine gate_callee (f := 15) rfl ?_); refine goesL_ (some 71) rfl rfl Try.func15 (by kernel_rfl) rfl #[.int .i64 13, .int .u64 a0, .int .u64 a1] rfl (by (try simp only [List.map_toArray, List.map_cons, List.map_nil]); first | done | rfl | (simp only [List.length_drop, List.length_take]; rfl)) ?_; (with_reducible refine (word_Alu.calls 13 a0 a1 t261 _ A43.out).mono ?_); rintro e w48 ⟨rfl, hb⟩; refine ⟨_, rfl, ?_⟩; have n0_ := Aside0.mk (below_step (by repeat (first | (with_reducible first | exact HB.out | apply below_alloc | apply pw_below_drewN | apply below_drew1) | exact HB.out)) hb); clear HB; have HB := n0_; clear n0_; (try clear hb); (try clear hb2); (try clear hk); (try clear hi)) | (go_at_call 15; (with_reducible refine (word_Alu.calls 12 a0 a1 t262 _ A45.out).mono ?_); rintro e w49 ⟨rfl, hb⟩; have n0_ := Aside0.mk (below_step (by repeat (first | (with_reducible first | exact HB.out | apply below_alloc | apply pw_below_drewN | apply below_drew1) | exact HB.out)) hb); clear HB; have HB := n0_; clear n0_; (try clear hb); (try clear hb2); (try clear hk); (try clear hi)) | (go_at_call 17; (with_reducible refine (citadellaw01_awake.calls  t263 _ A47.out).mono ?_); rintro e w50 ⟨rfl, hb⟩; have n0_ := Aside0.mk (below_step (by repeat (first | (with_reducible first | exact HB.out | apply below_alloc | apply pw_below_drewN | apply below_drew1) | exact HB.out)) hb); clear HB; have HB := n0_; clear n0_; (try clear hb); (try clear hb2); (try clear hk); (try clear hi)))
                        go_ret
                        exact ⟨by first | rfl | (simp [errW_none, errW_some] <;> rfl) | (simp [*, errW_none, errW_some] <;> rfl), by repeat (first | (with_reducible first | exact HB.out | apply below_alloc | apply pw_below_drewN | apply below_drew1) | exact HB.out)⟩
                      · rw [if_neg c46] at H
                        have c46b0 : (t262 == x10_27) = false := beq_eq_false_iff_ne.mpr c46
                        have c46b1 : (t262 != x10_27) = true := bne_iff_ne.mpr c46
                        obtain rfl := Option.some.inj H
                        go_wp2_with (first | ((with_reducible refine gate_callee (f := 15) rfl ?_); refine goesL_ (some 71) rfl rfl Try.func15 (by kernel_rfl) rfl #[.int .i64 13, .int .u64 a0, .int .u64 a1] rfl (by (try simp only [List.map_toArray, List.map_cons, List.map_nil]); first | done | rfl | (simp only [List.length_drop, List.length_take]; rfl)) ?_; (with_reducible refine (word_Alu.calls 13 a0 a1 t261 _ A43.out).mono ?_); rintro e w51 ⟨rfl, hb⟩; refine ⟨_, rfl, ?_⟩; have n0_ := Aside0.mk (below_step (by repeat (first | (with_reducible first | exact HB.out | apply below_alloc | apply pw_below_drewN | apply below_drew1) | exact HB.out)) hb); clear HB; have HB := n0_; clear n0_; (try clear hb); (try clear hb2); (try clear hk); (try clear hi)) | (go_at_call 15; (with_reducible refine (word_Alu.calls 12 a0 a1 t262 _ A45.out).mono ?_); rintro e w52 ⟨rfl, hb⟩; have n0_ := Aside0.mk (below_step (by repeat (first | (with_reducible first | exact HB.out | apply below_alloc | apply pw_below_drewN | apply below_drew1) | exact HB.out)) hb); clear HB; have HB := n0_; clear n0_; (try clear hb); (try clear hb2); (try clear hk); (try clear hi)))
                        go_ret
                        exact ⟨by first | rfl | (simp [errW_none, errW_some] <;> rfl) | (simp [*, errW_none, errW_some] <;> rfl), by repeat (first | (with_reducible first | exact HB.out | apply below_alloc | apply pw_below_drewN | apply below_drew1) | exact HB.out)⟩
                    · rw [if_neg c44] at H
                      have c44b0 : (t261 == x10_27) = false := beq_eq_false_iff_ne.mpr c44
                      have c44b1 : (t261 != x10_27) = true := bne_iff_ne.mpr c44
                      obtain rfl := Option.some.inj H
                      go_wp2_with (first | ((with_reducible refine gate_callee (f := 15) rfl ?_); refine goesL_ (some 71) rfl rfl Try.func15 (by kernel_rfl) rfl #[.int .i64 13, .int .u64 a0, .int .u64 a1] rfl (by (try simp only [List.map_toArray, List.map_cons, List.map_nil]); first | done | rfl | (simp only [List.length_drop, List.length_take]; rfl)) ?_; (with_reducible refine (word_Alu.calls 13 a0 a1 t261 _ A43.out).mono ?_); rintro e w53 ⟨rfl, hb⟩; refine ⟨_, rfl, ?_⟩; have n0_ := Aside0.mk (below_step (by repeat (first | (with_reducible first | exact HB.out | apply below_alloc | apply pw_below_drewN | apply below_drew1) | exact HB.out)) hb); clear HB; have HB := n0_; clear n0_; (try clear hb); (try clear hb2); (try clear hk); (try clear hi)))
                      go_ret
                      exact ⟨by first | rfl | (simp [errW_none, errW_some] <;> rfl) | (simp [*, errW_none, errW_some] <;> rfl), by repeat (first | (with_reducible first | exact HB.out | apply below_alloc | apply pw_below_drewN | apply below_drew1) | exact HB.out)⟩

/-- THE ONE PURE STATEMENT of citadellaw01_WordProducts: yours. -/
def citadellaw01_WordProducts.Pure : Prop := ∀ (a0 : Int) (a1 : Int) (a2 : Int), (Lit.int .u64 a0).wf = true → (Lit.int .u64 a1).wf = true → (Lit.int .u64 a2).wf = true → ∃ k, citadellaw01_WordProducts.f k a0 a1 a2 = some true
theorem citadellaw01_WordProducts.walk (P : citadellaw01_WordProducts.Pure) (a0 : Int) (a1 : Int) (a2 : Int) (w : World) (w0 : (Lit.int .u64 a0).wf = true) (w1 : (Lit.int .u64 a1).wf = true) (w2 : (Lit.int .u64 a2).wf = true) :
    Calls Try.prog 7 #[.int .u64 a0, .int .u64 a1, .int .u64 a2] w fun e w' => e = .returned (.bool true) ∧ Below w.heap.size w w' := by
  obtain ⟨k, h⟩ := P a0 a1 a2 w0 w1 w2
  refine (citadellaw01_WordProducts.calls k a0 a1 a2 true w h).mono ?_
  rintro e w' ⟨rfl, hd⟩
  exact ⟨rfl, hd⟩

end Go.Proofs.Ytmfbijfghonnjaa.PA
