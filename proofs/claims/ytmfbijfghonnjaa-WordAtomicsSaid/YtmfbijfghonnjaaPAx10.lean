/- What the program's functions answer, call by call, and the row of a law; no conditions beyond each theorem's own. Written by a program of this repo (xprint.py, over the kit's printer, with contracts of the session's own). Lean checks it. -/
import Derived.Test.YtmfbijfghonnjaaPAx0
import Derived.Test.YtmfbijfghonnjaaPAx4
import Derived.Test.YtmfbijfghonnjaaPAx8
namespace Go.Proofs.Ytmfbijfghonnjaa.PA
open Go.RowKit Go.Proofs.YtmfbijfghonnjaaW.PrintWords Go.Proofs.YtmfbijfghonnjaaW.PrintLast Go.Proofs.YtmfbijfghonnjaaW.PrintMore
attribute [local go_sem] max2_int min2_int max_two min_two max_three min_three max_four min_four   -- for this text's walks alone
set_option linter.unusedVariables false
set_option linter.unusedSimpArgs false

/-! ### citadellaw01_WordAtomics: function 14 -/
mutual
def citadellaw01_WordAtomics.j0 : Nat → Int → Int → Bool → Option (Bool)
  | 0, _, _, _ => none
  | k + 1, x0, x1, x29 => if x29 = true then (some false) else ((word_Amo.f 4 8 x0 x1).bind fun t318 => ((word_Amo.f 5 8 x0 x1).bind fun t319 => (if (IntKind.u64.wrap (t318 + t319)) = (IntKind.u64.wrap (x0 + x1)) then ((word_Amo.f 6 8 x0 x1).bind fun t320 => ((word_Amo.f 7 8 x0 x1).bind fun t321 => (if (IntKind.u64.wrap (t320 + t321)) = (IntKind.u64.wrap (x0 + x1)) then ((word_Amo.f 8 8 x0 x1).bind fun t322 => ((word_Amo.f 9 8 x0 x1).bind fun t323 => (citadellaw01_WordAtomics.j1 k x0 x1 ((IntKind.u64.wrap (t322 + t323)) != (IntKind.u64.wrap (x0 + x1)))))) else (citadellaw01_WordAtomics.j1 k x0 x1 true)))) else (citadellaw01_WordAtomics.j1 k x0 x1 true))))
def citadellaw01_WordAtomics.j1 : Nat → Int → Int → Bool → Option (Bool)
  | 0, _, _, _ => none
  | k + 1, x0, x1, x66 => if x66 = true then (some false) else ((word_Amo.f 7 8 x0 x1).bind fun t324 => ((word_Amo.f 6 8 x0 x1).bind fun t325 => ((word_Branch.f 3 t324 t325).bind fun t326 => (if t326 = true then (citadellaw01_WordAtomics.j2 k x0 x1 true) else ((word_Amo.f 9 8 x0 x1).bind fun t327 => ((word_Amo.f 8 8 x0 x1).bind fun t328 => ((word_Branch.f 5 t327 t328).bind fun t329 => (citadellaw01_WordAtomics.j2 k x0 x1 t329))))))))
def citadellaw01_WordAtomics.j2 : Nat → Int → Int → Bool → Option (Bool)
  | 0, _, _, _ => none
  | k + 1, x0, x1, x82 => if x82 = true then (some false) else (citadellaw01_WordAtomics.l0 k x0 x1 1)
def citadellaw01_WordAtomics.l0 : Nat → Int → Int → Int → Option (Bool)
  | 0, _, _, _ => none
  | k + 1, x0, x1, x5 => if x5 ≤ 9 then ((word_Amo.f x5 4 x0 x1).bind fun t331 => (if t331 ≥ 4294967296 then (some false) else ((word_Amo.f x5 4 (Int.tmod x0 4294967296) (Int.tmod x1 4294967296)).bind fun t332 => (if t331 = t332 then (citadellaw01_WordAtomics.l0 k x0 x1 (wrap64 (x5 + 1))) else (some false))))) else ((citadellaw01_awake.f).bind fun t330 => (some t330))
end
def citadellaw01_WordAtomics.f (k : Nat) (a0 : Int) (a1 : Int) : Option (Bool) := (word_Amo.f 1 8 a0 a1).bind fun t315 => (if t315 = a1 then ((word_Amo.f 2 8 a0 a1).bind fun t316 => (if t316 = (IntKind.u64.wrap (a0 + a1)) then ((word_Amo.f 3 8 a0 a1).bind fun t317 => (citadellaw01_WordAtomics.j0 k a0 a1 ((Go.bits .xor .u64 t317 a1) != a0))) else (citadellaw01_WordAtomics.j0 k a0 a1 true))) else (citadellaw01_WordAtomics.j0 k a0 a1 true))
theorem citadellaw01_WordAtomics.mono_l : ∀ k, (∀ y0 y1 y2, LeO (citadellaw01_WordAtomics.j0 k y0 y1 y2) (citadellaw01_WordAtomics.j0 (k + 1) y0 y1 y2)) ∧ (∀ y0 y1 y2, LeO (citadellaw01_WordAtomics.j1 k y0 y1 y2) (citadellaw01_WordAtomics.j1 (k + 1) y0 y1 y2)) ∧ (∀ y0 y1 y2, LeO (citadellaw01_WordAtomics.j2 k y0 y1 y2) (citadellaw01_WordAtomics.j2 (k + 1) y0 y1 y2)) ∧ (∀ y0 y1 y2, LeO (citadellaw01_WordAtomics.l0 k y0 y1 y2) (citadellaw01_WordAtomics.l0 (k + 1) y0 y1 y2))
  | 0 => ⟨fun _ _ _ r h => by simp [citadellaw01_WordAtomics.j0] at h, fun _ _ _ r h => by simp [citadellaw01_WordAtomics.j1] at h, fun _ _ _ r h => by simp [citadellaw01_WordAtomics.j2] at h, fun _ _ _ r h => by simp [citadellaw01_WordAtomics.l0] at h⟩
  | k + 1 => by
    obtain ⟨ih0, ih1, ih2, ih3⟩ := citadellaw01_WordAtomics.mono_l k
    refine ⟨?_, ?_, ?_, ?_⟩
    · intro y0 y1 y2
      unfold citadellaw01_WordAtomics.j0
      repeat' first
      | (with_reducible exact ih0 _ _ _)
      | (with_reducible exact ih1 _ _ _)
      | (with_reducible exact ih2 _ _ _)
      | (with_reducible exact ih3 _ _ _)
      | (with_reducible exact LeO.refl _)
      | (with_reducible exact LeO.none _)
      | (with_reducible refine LeO.ite ?_ ?_)
      | (with_reducible refine LeO.bind ?_ (fun _ => ?_))
      | exact ih0 _ _ _
      | exact ih1 _ _ _
      | exact ih2 _ _ _
      | exact ih3 _ _ _
      | exact LeO.none _
      | refine LeO.ite ?_ ?_
      | refine LeO.bind ?_ (fun _ => ?_)
    · intro y0 y1 y2
      unfold citadellaw01_WordAtomics.j1
      repeat' first
      | (with_reducible exact ih0 _ _ _)
      | (with_reducible exact ih1 _ _ _)
      | (with_reducible exact ih2 _ _ _)
      | (with_reducible exact ih3 _ _ _)
      | (with_reducible exact LeO.refl _)
      | (with_reducible exact LeO.none _)
      | (with_reducible refine LeO.ite ?_ ?_)
      | (with_reducible refine LeO.bind ?_ (fun _ => ?_))
      | exact ih0 _ _ _
      | exact ih1 _ _ _
      | exact ih2 _ _ _
      | exact ih3 _ _ _
      | exact LeO.none _
      | refine LeO.ite ?_ ?_
      | refine LeO.bind ?_ (fun _ => ?_)
    · intro y0 y1 y2
      unfold citadellaw01_WordAtomics.j2
      repeat' first
      | (with_reducible exact ih0 _ _ _)
      | (with_reducible exact ih1 _ _ _)
      | (with_reducible exact ih2 _ _ _)
      | (with_reducible exact ih3 _ _ _)
      | (with_reducible exact LeO.refl _)
      | (with_reducible exact LeO.none _)
      | (with_reducible refine LeO.ite ?_ ?_)
      | (with_reducible refine LeO.bind ?_ (fun _ => ?_))
      | exact ih0 _ _ _
      | exact ih1 _ _ _
      | exact ih2 _ _ _
      | exact ih3 _ _ _
      | exact LeO.none _
      | refine LeO.ite ?_ ?_
      | refine LeO.bind ?_ (fun _ => ?_)
    · intro y0 y1 y2
      unfold citadellaw01_WordAtomics.l0
      repeat' first
      | (with_reducible exact ih0 _ _ _)
      | (with_reducible exact ih1 _ _ _)
      | (with_reducible exact ih2 _ _ _)
      | (with_reducible exact ih3 _ _ _)
      | (with_reducible exact LeO.refl _)
      | (with_reducible exact LeO.none _)
      | (with_reducible refine LeO.ite ?_ ?_)
      | (with_reducible refine LeO.bind ?_ (fun _ => ?_))
      | exact ih0 _ _ _
      | exact ih1 _ _ _
      | exact ih2 _ _ _
      | exact ih3 _ _ _
      | exact LeO.none _
      | refine LeO.ite ?_ ?_
      | refine LeO.bind ?_ (fun _ => ?_)
theorem citadellaw01_WordAtomics.mono : ∀ a0 a1 k, LeO (citadellaw01_WordAtomics.f k a0 a1) (citadellaw01_WordAtomics.f (k + 1) a0 a1) := by
  intro a0 a1 k
  obtain ⟨ih0, ih1, ih2, ih3⟩ := citadellaw01_WordAtomics.mono_l k
  unfold citadellaw01_WordAtomics.f
  repeat' first
      | (with_reducible exact ih0 _ _ _)
      | (with_reducible exact ih1 _ _ _)
      | (with_reducible exact ih2 _ _ _)
      | (with_reducible exact ih3 _ _ _)
      | (with_reducible exact LeO.refl _)
      | (with_reducible exact LeO.none _)
      | (with_reducible refine LeO.ite ?_ ?_)
      | (with_reducible refine LeO.bind ?_ (fun _ => ?_))
      | exact ih0 _ _ _
      | exact ih1 _ _ _
      | exact ih2 _ _ _
      | exact ih3 _ _ _
      | exact LeO.none _
      | refine LeO.ite ?_ ?_
      | refine LeO.bind ?_ (fun _ => ?_)
set_option maxHeartbeats 8000000 in
set_option maxRecDepth 100000 in
theorem citadellaw01_WordAtomics.calls (k : Nat) (a0 : Int) (a1 : Int) (r : Bool) (w : World) (h : citadellaw01_WordAtomics.f k a0 a1 = some r) :
    Calls Try.prog 14 #[.int .u64 a0, .int .u64 a1] w fun e w' => e = .returned (.bool r) ∧ Below w.heap.size w w' := by
  have HB := Aside0.mk (Below.refl w.heap.size w)
  have H : ((word_Amo.f 1 8 a0 a1).bind fun t315 => (if t315 = a1 then ((word_Amo.f 2 8 a0 a1).bind fun t316 => (if t316 = (IntKind.u64.wrap (a0 + a1)) then ((word_Amo.f 3 8 a0 a1).bind fun t317 => (citadellaw01_WordAtomics.j0 k a0 a1 ((Go.bits .xor .u64 t317 a1) != a0))) else (citadellaw01_WordAtomics.j0 k a0 a1 true))) else (citadellaw01_WordAtomics.j0 k a0 a1 true))) = some r := h
  clear h
  have HC3 := Aside0.mk H
  clear H
  go_enter Try.func14, Try.ntmps14
  go_upto_region 1 with (fail)
  go_cut [29] (fun v29 wc => ∃ (kq : Nat) (x29_2 : Bool), v29 = .bool x29_2 ∧ Aside0 (citadellaw01_WordAtomics.j0 kq a0 a1 x29_2 = some r) ∧ Aside0 (kq ≤ k) ∧ Aside0 (Below w.heap.size w wc))
  case first =>
    have H := HC3.out
    clear HC3
    replace H := Option.bind_eq_some_iff.mp H
    obtain ⟨t315, A40, H⟩ := H
    replace H : (if t315 = a1 then ((word_Amo.f 2 8 a0 a1).bind fun t316 => (if t316 = (IntKind.u64.wrap (a0 + a1)) then ((word_Amo.f 3 8 a0 a1).bind fun t317 => (citadellaw01_WordAtomics.j0 k a0 a1 ((Go.bits .xor .u64 t317 a1) != a0))) else (citadellaw01_WordAtomics.j0 k a0 a1 true))) else (citadellaw01_WordAtomics.j0 k a0 a1 true)) = some r := H
    have A4 := Aside0.mk A40
    clear A40
    by_cases c5 : t315 = a1
    · rw [if_pos c5] at H
      have c5b0 : (t315 == a1) = true := beq_iff_eq.mpr c5
      have c5b1 : (t315 != a1) = false := bne_eq_false_iff_eq.mpr c5
      clear c5
      (first | rw [c5b0] | (simp only [i64_w, i32_w]; rw [c5b0]) | skip)
      replace H := Option.bind_eq_some_iff.mp H
      obtain ⟨t316, A60, H⟩ := H
      replace H : (if t316 = (IntKind.u64.wrap (a0 + a1)) then ((word_Amo.f 3 8 a0 a1).bind fun t317 => (citadellaw01_WordAtomics.j0 k a0 a1 ((Go.bits .xor .u64 t317 a1) != a0))) else (citadellaw01_WordAtomics.j0 k a0 a1 true)) = some r := H
      have A6 := Aside0.mk A60
      clear A60
      by_cases c7 : t316 = (IntKind.u64.wrap (a0 + a1))
      · rw [if_pos c7] at H
        have c7b0 : (t316 == (IntKind.u64.wrap (a0 + a1))) = true := beq_iff_eq.mpr c7
        have c7b1 : (t316 != (IntKind.u64.wrap (a0 + a1))) = false := bne_eq_false_iff_eq.mpr c7
        clear c7
        replace H := Option.bind_eq_some_iff.mp H
        obtain ⟨t317, A80, H⟩ := H
        replace H : (citadellaw01_WordAtomics.j0 k a0 a1 ((Go.bits .xor .u64 t317 a1) != a0)) = some r := H
        have A8 := Aside0.mk A80
        clear A80
        have H' := Aside0.mk H
        clear H
        go_wp2_with (first | ((with_reducible refine gate_callee (f := 18) rfl ?_); refine goesL_ (some 9) rfl rfl Try.func18 (by kernel_rfl) rfl #[.int .i64 1, .int .i64 8, .int .u64 a0, .int .u64 a1] rfl (by (try simp only [List.map_toArray, List.map_cons, List.map_nil]); first | done | rfl | (simp only [List.length_drop, List.length_take]; rfl)) ?_; (with_reducible refine (word_Amo.calls 1 8 a0 a1 t315 _ A4.out).mono ?_); rintro e w9 ⟨rfl, hb⟩; refine ⟨_, rfl, ?_⟩; have n0_ := Aside0.mk (below_step (by repeat (first | (with_reducible first | exact HB.out | apply below_alloc | apply pw_below_drewN | apply below_drew1) | exact HB.out)) hb); clear HB; have HB := n0_; clear n0_; (try clear hb); (try clear hb2); (try clear hk); (try clear hi)) | (go_at_call 18; (with_reducible refine (word_Amo.calls 2 8 a0 a1 t316 _ A6.out).mono ?_); rintro e w10 ⟨rfl, hb⟩; have n0_ := Aside0.mk (below_step (by repeat (first | (with_reducible first | exact HB.out | apply below_alloc | apply pw_below_drewN | apply below_drew1) | exact HB.out)) hb); clear HB; have HB := n0_; clear n0_; (try clear hb); (try clear hb2); (try clear hk); (try clear hi)) | (go_at_call 18; (with_reducible refine (word_Amo.calls 3 8 a0 a1 t317 _ A8.out).mono ?_); rintro e w11 ⟨rfl, hb⟩; have n0_ := Aside0.mk (below_step (by repeat (first | (with_reducible first | exact HB.out | apply below_alloc | apply pw_below_drewN | apply below_drew1) | exact HB.out)) hb); clear HB; have HB := n0_; clear n0_; (try clear hb); (try clear hb2); (try clear hk); (try clear hi)))
        go_meet
        case rel => exact ⟨_, (((Go.bits .xor .u64 t317 a1) != a0)), (by first | rfl | (simp; done) | (simp [*]; done)), H', ⟨by first | omega | exact Nat.le_refl _⟩, ⟨by repeat (first | (with_reducible first | exact HB.out | apply below_alloc | apply pw_below_drewN | apply below_drew1) | exact HB.out)⟩⟩
      · rw [if_neg c7] at H
        have c7b0 : (t316 == (IntKind.u64.wrap (a0 + a1))) = false := beq_eq_false_iff_ne.mpr c7
        have c7b1 : (t316 != (IntKind.u64.wrap (a0 + a1))) = true := bne_iff_ne.mpr c7
        have H' := Aside0.mk H
        clear H
        go_wp2_with (first | ((with_reducible refine gate_callee (f := 18) rfl ?_); refine goesL_ (some 9) rfl rfl Try.func18 (by kernel_rfl) rfl #[.int .i64 1, .int .i64 8, .int .u64 a0, .int .u64 a1] rfl (by (try simp only [List.map_toArray, List.map_cons, List.map_nil]); first | done | rfl | (simp only [List.length_drop, List.length_take]; rfl)) ?_; (with_reducible refine (word_Amo.calls 1 8 a0 a1 t315 _ A4.out).mono ?_); rintro e w12 ⟨rfl, hb⟩; refine ⟨_, rfl, ?_⟩; have n0_ := Aside0.mk (below_step (by repeat (first | (with_reducible first | exact HB.out | apply below_alloc | apply pw_below_drewN | apply below_drew1) | exact HB.out)) hb); clear HB; have HB := n0_; clear n0_; (try clear hb); (try clear hb2); (try clear hk); (try clear hi)) | (go_at_call 18; (with_reducible refine (word_Amo.calls 2 8 a0 a1 t316 _ A6.out).mono ?_); rintro e w13 ⟨rfl, hb⟩; have n0_ := Aside0.mk (below_step (by repeat (first | (with_reducible first | exact HB.out | apply below_alloc | apply pw_below_drewN | apply below_drew1) | exact HB.out)) hb); clear HB; have HB := n0_; clear n0_; (try clear hb); (try clear hb2); (try clear hk); (try clear hi)))
        go_meet
        case rel => exact ⟨_, (true), (by first | rfl | (simp; done) | (simp [*]; done)), H', ⟨by first | omega | exact Nat.le_refl _⟩, ⟨by repeat (first | (with_reducible first | exact HB.out | apply below_alloc | apply pw_below_drewN | apply below_drew1) | exact HB.out)⟩⟩
    · rw [if_neg c5] at H
      have c5b0 : (t315 == a1) = false := beq_eq_false_iff_ne.mpr c5
      have c5b1 : (t315 != a1) = true := bne_iff_ne.mpr c5
      (first | rw [c5b0] | (simp only [i64_w, i32_w]; rw [c5b0]) | skip)
      have H' := Aside0.mk H
      clear H
      go_wp2_with (first | ((with_reducible refine gate_callee (f := 18) rfl ?_); refine goesL_ (some 9) rfl rfl Try.func18 (by kernel_rfl) rfl #[.int .i64 1, .int .i64 8, .int .u64 a0, .int .u64 a1] rfl (by (try simp only [List.map_toArray, List.map_cons, List.map_nil]); first | done | rfl | (simp only [List.length_drop, List.length_take]; rfl)) ?_; (with_reducible refine (word_Amo.calls 1 8 a0 a1 t315 _ A4.out).mono ?_); rintro e w14 ⟨rfl, hb⟩; refine ⟨_, rfl, ?_⟩; have n0_ := Aside0.mk (below_step (by repeat (first | (with_reducible first | exact HB.out | apply below_alloc | apply pw_below_drewN | apply below_drew1) | exact HB.out)) hb); clear HB; have HB := n0_; clear n0_; (try clear hb); (try clear hb2); (try clear hk); (try clear hi)))
      go_meet
      case rel => exact ⟨_, (true), (by first | rfl | (simp; done) | (simp [*]; done)), H', ⟨by first | omega | exact Nat.le_refl _⟩, ⟨by repeat (first | (with_reducible first | exact HB.out | apply below_alloc | apply pw_below_drewN | apply below_drew1) | exact HB.out)⟩⟩
  case rest =>
    clear HC3
    try clear c1
    try clear p2
    try clear c5
    try clear c5b0
    try clear c5b1
    try clear c7
    try clear c7b0
    try clear c7b1
    try clear c14
    obtain ⟨kq, x29_2, rfl, HA, HJ2, HB⟩ := hcut
    cases kq with
    | zero => exact absurd HA.out (by simp [citadellaw01_WordAtomics.j0])
    | succ kj2 =>
      have H := HA.out
      clear HA
      simp only [citadellaw01_WordAtomics.j0] at H
      by_cases c15 : x29_2 = true
      · subst c15
        have H1 : (some false) = some r := by rw [if_pos rfl] at H; exact H
        clear H
        have H := H1
        clear H1
        obtain rfl := Option.some.inj H
        go_wp2
        go_ret
        exact ⟨by first | rfl | (simp [errW_none, errW_some] <;> rfl) | (simp [*, errW_none, errW_some] <;> rfl), by repeat (first | (with_reducible first | exact HB.out | apply below_alloc | apply pw_below_drewN | apply below_drew1) | exact HB.out)⟩
      · replace c15 := Bool.eq_false_iff.mpr c15
        subst c15
        have H1 : ((word_Amo.f 4 8 a0 a1).bind fun t318 => ((word_Amo.f 5 8 a0 a1).bind fun t319 => (if (IntKind.u64.wrap (t318 + t319)) = (IntKind.u64.wrap (a0 + a1)) then ((word_Amo.f 6 8 a0 a1).bind fun t320 => ((word_Amo.f 7 8 a0 a1).bind fun t321 => (if (IntKind.u64.wrap (t320 + t321)) = (IntKind.u64.wrap (a0 + a1)) then ((word_Amo.f 8 8 a0 a1).bind fun t322 => ((word_Amo.f 9 8 a0 a1).bind fun t323 => (citadellaw01_WordAtomics.j1 kj2 a0 a1 ((IntKind.u64.wrap (t322 + t323)) != (IntKind.u64.wrap (a0 + a1)))))) else (citadellaw01_WordAtomics.j1 kj2 a0 a1 true)))) else (citadellaw01_WordAtomics.j1 kj2 a0 a1 true)))) = some r := by rw [if_neg (show ¬ (false = true) by decide)] at H; exact H
        clear H
        have H := H1
        clear H1
        have HC16 := Aside0.mk H
        clear H
        go_upto_region 3 with (fail)
        go_cut [66] (fun v66 wc => ∃ (kq : Nat) (x66_15 : Bool), v66 = .bool x66_15 ∧ Aside0 (citadellaw01_WordAtomics.j1 kq a0 a1 x66_15 = some r) ∧ Aside0 (kq ≤ kj2) ∧ Aside0 (Below w.heap.size w wc))
        case first =>
          have H := HC16.out
          clear HC16
          replace H := Option.bind_eq_some_iff.mp H
          obtain ⟨t318, A170, H⟩ := H
          replace H : ((word_Amo.f 5 8 a0 a1).bind fun t319 => (if (IntKind.u64.wrap (t318 + t319)) = (IntKind.u64.wrap (a0 + a1)) then ((word_Amo.f 6 8 a0 a1).bind fun t320 => ((word_Amo.f 7 8 a0 a1).bind fun t321 => (if (IntKind.u64.wrap (t320 + t321)) = (IntKind.u64.wrap (a0 + a1)) then ((word_Amo.f 8 8 a0 a1).bind fun t322 => ((word_Amo.f 9 8 a0 a1).bind fun t323 => (citadellaw01_WordAtomics.j1 kj2 a0 a1 ((IntKind.u64.wrap (t322 + t323)) != (IntKind.u64.wrap (a0 + a1)))))) else (citadellaw01_WordAtomics.j1 kj2 a0 a1 true)))) else (citadellaw01_WordAtomics.j1 kj2 a0 a1 true))) = some r := H
          have A17 := Aside0.mk A170
          clear A170
          replace H := Option.bind_eq_some_iff.mp H
          obtain ⟨t319, A180, H⟩ := H
          replace H : (if (IntKind.u64.wrap (t318 + t319)) = (IntKind.u64.wrap (a0 + a1)) then ((word_Amo.f 6 8 a0 a1).bind fun t320 => ((word_Amo.f 7 8 a0 a1).bind fun t321 => (if (IntKind.u64.wrap (t320 + t321)) = (IntKind.u64.wrap (a0 + a1)) then ((word_Amo.f 8 8 a0 a1).bind fun t322 => ((word_Amo.f 9 8 a0 a1).bind fun t323 => (citadellaw01_WordAtomics.j1 kj2 a0 a1 ((IntKind.u64.wrap (t322 + t323)) != (IntKind.u64.wrap (a0 + a1)))))) else (citadellaw01_WordAtomics.j1 kj2 a0 a1 true)))) else (citadellaw01_WordAtomics.j1 kj2 a0 a1 true)) = some r := H
          have A18 := Aside0.mk A180
          clear A180
          by_cases c19 : (IntKind.u64.wrap (t318 + t319)) = (IntKind.u64.wrap (a0 + a1))
          · rw [if_pos c19] at H
            have c19b0 : ((IntKind.u64.wrap (t318 + t319)) == (IntKind.u64.wrap (a0 + a1))) = true := beq_iff_eq.mpr c19
            have c19b1 : ((IntKind.u64.wrap (t318 + t319)) != (IntKind.u64.wrap (a0 + a1))) = false := bne_eq_false_iff_eq.mpr c19
            clear c19
            (first | rw [c19b0] | (simp only [i64_w, i32_w]; rw [c19b0]) | skip)
            replace H := Option.bind_eq_some_iff.mp H
            obtain ⟨t320, A200, H⟩ := H
            replace H : ((word_Amo.f 7 8 a0 a1).bind fun t321 => (if (IntKind.u64.wrap (t320 + t321)) = (IntKind.u64.wrap (a0 + a1)) then ((word_Amo.f 8 8 a0 a1).bind fun t322 => ((word_Amo.f 9 8 a0 a1).bind fun t323 => (citadellaw01_WordAtomics.j1 kj2 a0 a1 ((IntKind.u64.wrap (t322 + t323)) != (IntKind.u64.wrap (a0 + a1)))))) else (citadellaw01_WordAtomics.j1 kj2 a0 a1 true))) = some r := H
            have A20 := Aside0.mk A200
            clear A200
            replace H := Option.bind_eq_some_iff.mp H
            obtain ⟨t321, A210, H⟩ := H
            replace H : (if (IntKind.u64.wrap (t320 + t321)) = (IntKind.u64.wrap (a0 + a1)) then ((word_Amo.f 8 8 a0 a1).bind fun t322 => ((word_Amo.f 9 8 a0 a1).bind fun t323 => (citadellaw01_WordAtomics.j1 kj2 a0 a1 ((IntKind.u64.wrap (t322 + t323)) != (IntKind.u64.wrap (a0 + a1)))))) else (citadellaw01_WordAtomics.j1 kj2 a0 a1 true)) = some r := H
            have A21 := Aside0.mk A210
            clear A210
            by_cases c22 : (IntKind.u64.wrap (t320 + t321)) = (IntKind.u64.wrap (a0 + a1))
            · rw [if_pos c22] at H
              have c22b0 : ((IntKind.u64.wrap (t320 + t321)) == (IntKind.u64.wrap (a0 + a1))) = true := beq_iff_eq.mpr c22
              have c22b1 : ((IntKind.u64.wrap (t320 + t321)) != (IntKind.u64.wrap (a0 + a1))) = false := bne_eq_false_iff_eq.mpr c22
              clear c22
              replace H := Option.bind_eq_some_iff.mp H
              obtain ⟨t322, A230, H⟩ := H
              replace H : ((word_Amo.f 9 8 a0 a1).bind fun t323 => (citadellaw01_WordAtomics.j1 kj2 a0 a1 ((IntKind.u64.wrap (t322 + t323)) != (IntKind.u64.wrap (a0 + a1))))) = some r := H
              have A23 := Aside0.mk A230
              clear A230
              replace H := Option.bind_eq_some_iff.mp H
              obtain ⟨t323, A240, H⟩ := H
              replace H : (citadellaw01_WordAtomics.j1 kj2 a0 a1 ((IntKind.u64.wrap (t322 + t323)) != (IntKind.u64.wrap (a0 + a1)))) = some r := H
              have A24 := Aside0.mk A240
              clear A240
              have H' := Aside0.mk H
              clear H
              go_wp2_with (first | ((with_reducible refine gate_callee (f := 18) rfl ?_); refine goesL_ (some 32) rfl rfl Try.func18 (by kernel_rfl) rfl #[.int .i64 4, .int .i64 8, .int .u64 a0, .int .u64 a1] rfl (by (try simp only [List.map_toArray, List.map_cons, List.map_nil]); first | done | rfl | (simp only [List.length_drop, List.length_take]; rfl)) ?_; (with_reducible refine (word_Amo.calls 4 8 a0 a1 t318 _ A17.out).mono ?_); rintro e w25 ⟨rfl, hb⟩; refine ⟨_, rfl, ?_⟩; have n0_ := Aside0.mk (below_step (by repeat (first | (with_reducible first | exact HB.out | apply below_alloc | apply pw_below_drewN | apply below_drew1) | exact HB.out)) hb); clear HB; have HB := n0_; clear n0_; (try clear hb); (try clear hb2); (try clear hk); (try clear hi)) | ((with_reducible refine gate_callee (f := 18) rfl ?_); refine goesL_ (some 35) rfl rfl Try.func18 (by kernel_rfl) rfl #[.int .i64 5, .int .i64 8, .int .u64 a0, .int .u64 a1] rfl (by (try simp only [List.map_toArray, List.map_cons, List.map_nil]); first | done | rfl | (simp only [List.length_drop, List.length_take]; rfl)) ?_; (with_reducible refine (word_Amo.calls 5 8 a0 a1 t319 _ A18.out).mono ?_); rintro e w26 ⟨rfl, hb⟩; refine ⟨_, rfl, ?_⟩; have n0_ := Aside0.mk (below_step (by repeat (first | (with_reducible first | exact HB.out | apply below_alloc | apply pw_below_drewN | apply below_drew1) | exact HB.out)) hb); clear HB; have HB := n0_; clear n0_; (try clear hb); (try clear hb2); (try clear hk); (try clear hi)) | (go_at_call 18; (with_reducible refine (word_Amo.calls 6 8 a0 a1 t320 _ A20.out).mono ?_); rintro e w27 ⟨rfl, hb⟩; have n0_ := Aside0.mk (below_step (by repeat (first | (with_reducible first | exact HB.out | apply below_alloc | apply pw_below_drewN | apply below_drew1) | exact HB.out)) hb); clear HB; have HB := n0_; clear n0_; (try clear hb); (try clear hb2); (try clear hk); (try clear hi)) | (go_at_call 18; (with_reducible refine (word_Amo.calls 7 8 a0 a1 t321 _ A21.out).mono ?_); rintro e w28 ⟨rfl, hb⟩; have n0_ := Aside0.mk (below_step (by repeat (first | (with_reducible first | exact HB.out | apply below_alloc | apply pw_below_drewN | apply below_drew1) | exact HB.out)) hb); clear HB; have HB := n0_; clear n0_; (try clear hb); (try clear hb2); (try clear hk); (try clear hi)) | (go_at_call 18; (with_reducible refine (word_Amo.calls 8 8 a0 a1 t322 _ A23.out).mono ?_); rintro e w29 ⟨rfl, hb⟩; have n0_ := Aside0.mk (below_step (by repeat (first | (with_reducible first | exact HB.out | apply below_alloc | apply pw_below_drewN | apply below_drew1) | exact HB.out)) hb); clear HB; have HB := n0_; clear n0_; (try clear hb); (try clear hb2); (try clear hk); (try clear hi)) | (go_at_call 18; (with_reducible refine (word_Amo.calls 9 8 a0 a1 t323 _ A24.out).mono ?_); rintro e w30 ⟨rfl, hb⟩; have n0_ := Aside0.mk (below_step (by repeat (first | (with_reducible first | exact HB.out | apply below_alloc | apply pw_below_drewN | apply below_drew1) | exact HB.out)) hb); clear HB; have HB := n0_; clear n0_; (try clear hb); (try clear hb2); (try clear hk); (try clear hi)))
              go_meet
              case rel => exact ⟨_, (((IntKind.u64.wrap (t322 + t323)) != (IntKind.u64.wrap (a0 + a1)))), (by first | rfl | (simp; done) | (simp [*]; done)), H', ⟨by have := HJ2.out; first | omega | exact Nat.le_refl _⟩, ⟨by repeat (first | (with_reducible first | exact HB.out | apply below_alloc | apply pw_below_drewN | apply below_drew1) | exact HB.out)⟩⟩
            · rw [if_neg c22] at H
              have c22b0 : ((IntKind.u64.wrap (t320 + t321)) == (IntKind.u64.wrap (a0 + a1))) = false := beq_eq_false_iff_ne.mpr c22
              have c22b1 : ((IntKind.u64.wrap (t320 + t321)) != (IntKind.u64.wrap (a0 + a1))) = true := bne_iff_ne.mpr c22
              have H' := Aside0.mk H
              clear H
              go_wp2_with (first | ((with_reducible refine gate_callee (f := 18) rfl ?_); refine goesL_ (some 32) rfl rfl Try.func18 (by kernel_rfl) rfl #[.int .i64 4, .int .i64 8, .int .u64 a0, .int .u64 a1] rfl (by (try simp only [List.map_toArray, List.map_cons, List.map_nil]); first | done | rfl | (simp only [List.length_drop, List.length_take]; rfl)) ?_; (with_reducible refine (word_Amo.calls 4 8 a0 a1 t318 _ A17.out).mono ?_); rintro e w31 ⟨rfl, hb⟩; refine ⟨_, rfl, ?_⟩; have n0_ := Aside0.mk (below_step (by repeat (first | (with_reducible first | exact HB.out | apply below_alloc | apply pw_below_drewN | apply below_drew1) | exact HB.out)) hb); clear HB; have HB := n0_; clear n0_; (try clear hb); (try clear hb2); (try clear hk); (try clear hi)) | ((with_reducible refine gate_callee (f := 18) rfl ?_); refine goesL_ (some 35) rfl rfl Try.func18 (by kernel_rfl) rfl #[.int .i64 5, .int .i64 8, .int .u64 a0, .int .u64 a1] rfl (by (try simp only [List.map_toArray, List.map_cons, List.map_nil]); first | done | rfl | (simp only [List.length_drop, List.length_take]; rfl)) ?_; (with_reducible refine (word_Amo.calls 5 8 a0 a1 t319 _ A18.out).mono ?_); rintro e w32 ⟨rfl, hb⟩; refine ⟨_, rfl, ?_⟩; have n0_ := Aside0.mk (below_step (by repeat (first | (with_reducible first | exact HB.out | apply below_alloc | apply pw_below_drewN | apply below_drew1) | exact HB.out)) hb); clear HB; have HB := n0_; clear n0_; (try clear hb); (try clear hb2); (try clear hk); (try clear hi)) | (go_at_call 18; (with_reducible refine (word_Amo.calls 6 8 a0 a1 t320 _ A20.out).mono ?_); rintro e w33 ⟨rfl, hb⟩; have n0_ := Aside0.mk (below_step (by repeat (first | (with_reducible first | exact HB.out | apply below_alloc | apply pw_below_drewN | apply below_drew1) | exact HB.out)) hb); clear HB; have HB := n0_; clear n0_; (try clear hb); (try clear hb2); (try clear hk); (try clear hi)) | (go_at_call 18; (with_reducible refine (word_Amo.calls 7 8 a0 a1 t321 _ A21.out).mono ?_); rintro e w34 ⟨rfl, hb⟩; have n0_ := Aside0.mk (below_step (by repeat (first | (with_reducible first | exact HB.out | apply below_alloc | apply pw_below_drewN | apply below_drew1) | exact HB.out)) hb); clear HB; have HB := n0_; clear n0_; (try clear hb); (try clear hb2); (try clear hk); (try clear hi)))
              go_meet
              case rel => exact ⟨_, (true), (by first | rfl | (simp; done) | (simp [*]; done)), H', ⟨by have := HJ2.out; first | omega | exact Nat.le_refl _⟩, ⟨by repeat (first | (with_reducible first | exact HB.out | apply below_alloc | apply pw_below_drewN | apply below_drew1) | exact HB.out)⟩⟩
          · rw [if_neg c19] at H
            have c19b0 : ((IntKind.u64.wrap (t318 + t319)) == (IntKind.u64.wrap (a0 + a1))) = false := beq_eq_false_iff_ne.mpr c19
            have c19b1 : ((IntKind.u64.wrap (t318 + t319)) != (IntKind.u64.wrap (a0 + a1))) = true := bne_iff_ne.mpr c19
            (first | rw [c19b0] | (simp only [i64_w, i32_w]; rw [c19b0]) | skip)
            have H' := Aside0.mk H
            clear H
            go_wp2_with (first | ((with_reducible refine gate_callee (f := 18) rfl ?_); refine goesL_ (some 32) rfl rfl Try.func18 (by kernel_rfl) rfl #[.int .i64 4, .int .i64 8, .int .u64 a0, .int .u64 a1] rfl (by (try simp only [List.map_toArray, List.map_cons, List.map_nil]); first | done | rfl | (simp only [List.length_drop, List.length_take]; rfl)) ?_; (with_reducible refine (word_Amo.calls 4 8 a0 a1 t318 _ A17.out).mono ?_); rintro e w35 ⟨rfl, hb⟩; refine ⟨_, rfl, ?_⟩; have n0_ := Aside0.mk (below_step (by repeat (first | (with_reducible first | exact HB.out | apply below_alloc | apply pw_below_drewN | apply below_drew1) | exact HB.out)) hb); clear HB; have HB := n0_; clear n0_; (try clear hb); (try clear hb2); (try clear hk); (try clear hi)) | ((with_reducible refine gate_callee (f := 18) rfl ?_); refine goesL_ (some 35) rfl rfl Try.func18 (by kernel_rfl) rfl #[.int .i64 5, .int .i64 8, .int .u64 a0, .int .u64 a1] rfl (by (try simp only [List.map_toArray, List.map_cons, List.map_nil]); first | done | rfl | (simp only [List.length_drop, List.length_take]; rfl)) ?_; (with_reducible refine (word_Amo.calls 5 8 a0 a1 t319 _ A18.out).mono ?_); rintro e w36 ⟨rfl, hb⟩; refine ⟨_, rfl, ?_⟩; have n0_ := Aside0.mk (below_step (by repeat (first | (with_reducible first | exact HB.out | apply below_alloc | apply pw_below_drewN | apply below_drew1) | exact HB.out)) hb); clear HB; have HB := n0_; clear n0_; (try clear hb); (try clear hb2); (try clear hk); (try clear hi)))
            go_meet
            case rel => exact ⟨_, (true), (by first | rfl | (simp; done) | (simp [*]; done)), H', ⟨by have := HJ2.out; first | omega | exact Nat.le_refl _⟩, ⟨by repeat (first | (with_reducible first | exact HB.out | apply below_alloc | apply pw_below_drewN | apply below_drew1) | exact HB.out)⟩⟩
        case rest =>
          clear HC16
          try clear c1
          try clear c2
          try clear p2
          try clear c5
          try clear c5b0
          try clear c5b1
          try clear c7
          try clear c7b0
          try clear c7b1
          try clear c14
          try clear c15
          try clear c18
          try clear c19
          try clear c19b0
          try clear c19b1
          try clear c22
          try clear c22b0
          try clear c22b1
          try clear p2
          obtain ⟨kq, x66_15, rfl, HA, HJ15, HB⟩ := hcut
          cases kq with
          | zero => exact absurd HA.out (by simp [citadellaw01_WordAtomics.j1])
          | succ kj15 =>
            have H := HA.out
            clear HA
            simp only [citadellaw01_WordAtomics.j1] at H
            by_cases c37 : x66_15 = true
            · subst c37
              have H1 : (some false) = some r := by rw [if_pos rfl] at H; exact H
              clear H
              have H := H1
              clear H1
              obtain rfl := Option.some.inj H
              go_wp2
              go_ret
              exact ⟨by first | rfl | (simp [errW_none, errW_some] <;> rfl) | (simp [*, errW_none, errW_some] <;> rfl), by repeat (first | (with_reducible first | exact HB.out | apply below_alloc | apply pw_below_drewN | apply below_drew1) | exact HB.out)⟩
            · replace c37 := Bool.eq_false_iff.mpr c37
              subst c37
              have H1 : ((word_Amo.f 7 8 a0 a1).bind fun t324 => ((word_Amo.f 6 8 a0 a1).bind fun t325 => ((word_Branch.f 3 t324 t325).bind fun t326 => (if t326 = true then (citadellaw01_WordAtomics.j2 kj15 a0 a1 true) else ((word_Amo.f 9 8 a0 a1).bind fun t327 => ((word_Amo.f 8 8 a0 a1).bind fun t328 => ((word_Branch.f 5 t327 t328).bind fun t329 => (citadellaw01_WordAtomics.j2 kj15 a0 a1 t329)))))))) = some r := by rw [if_neg (show ¬ (false = true) by decide)] at H; exact H
              clear H
              have H := H1
              clear H1
              have HC38 := Aside0.mk H
              clear H
              go_upto_region 5 with (fail)
              go_cut [82] (fun v82 wc => ∃ (kq : Nat) (x82_37 : Bool), v82 = .bool x82_37 ∧ Aside0 (citadellaw01_WordAtomics.j2 kq a0 a1 x82_37 = some r) ∧ Aside0 (kq ≤ kj15) ∧ Aside0 (Below w.heap.size w wc))
              case first =>
                have H := HC38.out
                clear HC38
                replace H := Option.bind_eq_some_iff.mp H
                obtain ⟨t324, A390, H⟩ := H
                replace H : ((word_Amo.f 6 8 a0 a1).bind fun t325 => ((word_Branch.f 3 t324 t325).bind fun t326 => (if t326 = true then (citadellaw01_WordAtomics.j2 kj15 a0 a1 true) else ((word_Amo.f 9 8 a0 a1).bind fun t327 => ((word_Amo.f 8 8 a0 a1).bind fun t328 => ((word_Branch.f 5 t327 t328).bind fun t329 => (citadellaw01_WordAtomics.j2 kj15 a0 a1 t329))))))) = some r := H
                have A39 := Aside0.mk A390
                clear A390
                replace H := Option.bind_eq_some_iff.mp H
                obtain ⟨t325, A400, H⟩ := H
                replace H : ((word_Branch.f 3 t324 t325).bind fun t326 => (if t326 = true then (citadellaw01_WordAtomics.j2 kj15 a0 a1 true) else ((word_Amo.f 9 8 a0 a1).bind fun t327 => ((word_Amo.f 8 8 a0 a1).bind fun t328 => ((word_Branch.f 5 t327 t328).bind fun t329 => (citadellaw01_WordAtomics.j2 kj15 a0 a1 t329)))))) = some r := H
                have A40 := Aside0.mk A400
                clear A400
                replace H := Option.bind_eq_some_iff.mp H
                obtain ⟨t326, A410, H⟩ := H
                replace H : (if t326 = true then (citadellaw01_WordAtomics.j2 kj15 a0 a1 true) else ((word_Amo.f 9 8 a0 a1).bind fun t327 => ((word_Amo.f 8 8 a0 a1).bind fun t328 => ((word_Branch.f 5 t327 t328).bind fun t329 => (citadellaw01_WordAtomics.j2 kj15 a0 a1 t329))))) = some r := H
                have A41 := Aside0.mk A410
                clear A410
                by_cases c42 : t326 = true
                · subst c42
                  have H1 : (citadellaw01_WordAtomics.j2 kj15 a0 a1 true) = some r := by rw [if_pos rfl] at H; exact H
                  clear H
                  have H := H1
                  clear H1
                  have H' := Aside0.mk H
                  clear H
                  go_wp2_with (first | ((with_reducible refine gate_callee (f := 18) rfl ?_); refine goesL_ (some 69) rfl rfl Try.func18 (by kernel_rfl) rfl #[.int .i64 7, .int .i64 8, .int .u64 a0, .int .u64 a1] rfl (by (try simp only [List.map_toArray, List.map_cons, List.map_nil]); first | done | rfl | (simp only [List.length_drop, List.length_take]; rfl)) ?_; (with_reducible refine (word_Amo.calls 7 8 a0 a1 t324 _ A39.out).mono ?_); rintro e w43 ⟨rfl, hb⟩; refine ⟨_, rfl, ?_⟩; have n0_ := Aside0.mk (below_step (by repeat (first | (with_reducible first | exact HB.out | apply below_alloc | apply pw_below_drewN | apply below_drew1) | exact HB.out)) hb); clear HB; have HB := n0_; clear n0_; (try clear hb); (try clear hb2); (try clear hk); (try clear hi)) | ((with_reducible refine gate_callee (f := 18) rfl ?_); refine goesL_ (some 72) rfl rfl Try.func18 (by kernel_rfl) rfl #[.int .i64 6, .int .i64 8, .int .u64 a0, .int .u64 a1] rfl (by (try simp only [List.map_toArray, List.map_cons, List.map_nil]); first | done | rfl | (simp only [List.length_drop, List.length_take]; rfl)) ?_; (with_reducible refine (word_Amo.calls 6 8 a0 a1 t325 _ A40.out).mono ?_); rintro e w44 ⟨rfl, hb⟩; refine ⟨_, rfl, ?_⟩; have n0_ := Aside0.mk (below_step (by repeat (first | (with_reducible first | exact HB.out | apply below_alloc | apply pw_below_drewN | apply below_drew1) | exact HB.out)) hb); clear HB; have HB := n0_; clear n0_; (try clear hb); (try clear hb2); (try clear hk); (try clear hi)) | ((with_reducible refine gate_callee (f := 22) rfl ?_); refine goesL_ (some 73) rfl rfl Try.func22 (by kernel_rfl) rfl #[.int .i64 3, .int .u64 t324, .int .u64 t325] rfl (by (try simp only [List.map_toArray, List.map_cons, List.map_nil]); first | done | rfl | (simp only [List.length_drop, List.length_take]; rfl)) ?_; (with_reducible refine (word_Branch.calls 3 t324 t325 true _ A41.out).mono ?_); rintro e w' ⟨rfl, ⟨nd, rfl⟩⟩; refine ⟨_, rfl, ?_⟩))
                  go_meet
                  case rel => exact ⟨_, (true), (by first | rfl | (simp; done) | (simp [*]; done)), H', ⟨by have := HJ2.out; have := HJ15.out; first | omega | exact Nat.le_refl _⟩, ⟨by repeat (first | (with_reducible first | exact HB.out | apply below_alloc | apply pw_below_drewN | apply below_drew1) | exact HB.out)⟩⟩
                · replace c42 := Bool.eq_false_iff.mpr c42
                  subst c42
                  have H1 : ((word_Amo.f 9 8 a0 a1).bind fun t327 => ((word_Amo.f 8 8 a0 a1).bind fun t328 => ((word_Branch.f 5 t327 t328).bind fun t329 => (citadellaw01_WordAtomics.j2 kj15 a0 a1 t329)))) = some r := by rw [if_neg (show ¬ (false = true) by decide)] at H; exact H
                  clear H
                  have H := H1
                  clear H1
                  replace H := Option.bind_eq_some_iff.mp H
                  obtain ⟨t327, A450, H⟩ := H
                  replace H : ((word_Amo.f 8 8 a0 a1).bind fun t328 => ((word_Branch.f 5 t327 t328).bind fun t329 => (citadellaw01_WordAtomics.j2 kj15 a0 a1 t329))) = some r := H
                  have A45 := Aside0.mk A450
                  clear A450
                  replace H := Option.bind_eq_some_iff.mp H
                  obtain ⟨t328, A460, H⟩ := H
                  replace H : ((word_Branch.f 5 t327 t328).bind fun t329 => (citadellaw01_WordAtomics.j2 kj15 a0 a1 t329)) = some r := H
                  have A46 := Aside0.mk A460
                  clear A460
                  replace H := Option.bind_eq_some_iff.mp H
                  obtain ⟨t329, A470, H⟩ := H
                  replace H : (citadellaw01_WordAtomics.j2 kj15 a0 a1 t329) = some r := H
                  have A47 := Aside0.mk A470
                  clear A470
                  have H' := Aside0.mk H
                  clear H
                  go_wp2_with (first | ((with_reducible refine gate_callee (f := 18) rfl ?_); refine goesL_ (some 69) rfl rfl Try.func18 (by kernel_rfl) rfl #[.int .i64 7, .int .i64 8, .int .u64 a0, .int .u64 a1] rfl (by (try simp only [List.map_toArray, List.map_cons, List.map_nil]); first | done | rfl | (simp only [List.length_drop, List.length_take]; rfl)) ?_; (with_reducible refine (word_Amo.calls 7 8 a0 a1 t324 _ A39.out).mono ?_); rintro e w48 ⟨rfl, hb⟩; refine ⟨_, rfl, ?_⟩; have n0_ := Aside0.mk (below_step (by repeat (first | (with_reducible first | exact HB.out | apply below_alloc | apply pw_below_drewN | apply below_drew1) | exact HB.out)) hb); clear HB; have HB := n0_; clear n0_; (try clear hb); (try clear hb2); (try clear hk); (try clear hi)) | ((with_reducible refine gate_callee (f := 18) rfl ?_); refine goesL_ (some 72) rfl rfl Try.func18 (by kernel_rfl) rfl #[.int .i64 6, .int .i64 8, .int .u64 a0, .int .u64 a1] rfl (by (try simp only [List.map_toArray, List.map_cons, List.map_nil]); first | done | rfl | (simp only [List.length_drop, List.length_take]; rfl)) ?_; (with_reducible refine (word_Amo.calls 6 8 a0 a1 t325 _ A40.out).mono ?_); rintro e w49 ⟨rfl, hb⟩; refine ⟨_, rfl, ?_⟩; have n0_ := Aside0.mk (below_step (by repeat (first | (with_reducible first | exact HB.out | apply below_alloc | apply pw_below_drewN | apply below_drew1) | exact HB.out)) hb); clear HB; have HB := n0_; clear n0_; (try clear hb); (try clear hb2); (try clear hk); (try clear hi)) | ((with_reducible refine gate_callee (f := 22) rfl ?_); refine goesL_ (some 73) rfl rfl Try.func22 (by kernel_rfl) rfl #[.int .i64 3, .int .u64 t324, .int .u64 t325] rfl (by (try simp only [List.map_toArray, List.map_cons, List.map_nil]); first | done | rfl | (simp only [List.length_drop, List.length_take]; rfl)) ?_; (with_reducible refine (word_Branch.calls 3 t324 t325 false _ A41.out).mono ?_); rintro e w' ⟨rfl, ⟨nd, rfl⟩⟩; refine ⟨_, rfl, ?_⟩) | (go_at_call 18; (with_reducible refine (word_Amo.calls 9 8 a0 a1 t327 _ A45.out).mono ?_); rintro e w50 ⟨rfl, hb⟩; have n0_ := Aside0.mk (below_step (by repeat (first | (with_reducible first | exact HB.out | apply below_alloc | apply pw_below_drewN | apply below_drew1) | exact HB.out)) hb); clear HB; have HB := n0_; clear n0_; (try clear hb); (try clear hb2); (try clear hk); (try clear hi)) | (go_at_call 18; (with_reducible refine (word_Amo.calls 8 8 a0 a1 t328 _ A46.out).mono ?_); rintro e w51 ⟨rfl, hb⟩; have n0_ := Aside0.mk (below_step (by repeat (first | (with_reducible first | exact HB.out | apply below_alloc | apply pw_below_drewN | apply below_drew1) | exact HB.out)) hb); clear HB; have HB := n0_; clear n0_; (try clear hb); (try clear hb2); (try clear hk); (try clear hi)) | (go_at_call 22; (with_reducible refine (word_Branch.calls 5 t327 t328 t329 _ A47.out).mono ?_); rintro e w' ⟨rfl, ⟨nd, rfl⟩⟩))
                  go_meet
                  case rel => exact ⟨_, (t329), (by first | rfl | (simp; done) | (simp [*]; done)), H', ⟨by have := HJ2.out; have := HJ15.out; first | omega | exact Nat.le_refl _⟩, ⟨by repeat (first | (with_reducible first | exact HB.out | apply below_alloc | apply pw_below_drewN | apply below_drew1) | exact HB.out)⟩⟩
              case rest =>
                clear HC38
                try clear c1
                try clear c2
                try clear p2
                try clear c3
                try clear c4
                try clear c5
                try clear c5b0
                try clear c5b1
                try clear c7
                try clear c7b0
                try clear c7b1
                try clear c14
                try clear c15
                try clear c18
                try clear c19
                try clear c19b0
                try clear c19b1
                try clear c22
                try clear c22b0
                try clear c22b1
                try clear c37
                try clear c42
                try clear p2
                obtain ⟨kq, x82_37, rfl, HA, HJ37, HB⟩ := hcut
                cases kq with
                | zero => exact absurd HA.out (by simp [citadellaw01_WordAtomics.j2])
                | succ kj37 =>
                  have H := HA.out
                  clear HA
                  simp only [citadellaw01_WordAtomics.j2] at H
                  by_cases c52 : x82_37 = true
                  · subst c52
                    have H1 : (some false) = some r := by rw [if_pos rfl] at H; exact H
                    clear H
                    have H := H1
                    clear H1
                    obtain rfl := Option.some.inj H
                    go_wp2
                    go_ret
                    exact ⟨by first | rfl | (simp [errW_none, errW_some] <;> rfl) | (simp [*, errW_none, errW_some] <;> rfl), by repeat (first | (with_reducible first | exact HB.out | apply below_alloc | apply pw_below_drewN | apply below_drew1) | exact HB.out)⟩
                  · replace c52 := Bool.eq_false_iff.mpr c52
                    subst c52
                    have H1 : (citadellaw01_WordAtomics.l0 kj37 a0 a1 1) = some r := by rw [if_neg (show ¬ (false = true) by decide)] at H; exact H
                    clear H
                    have H := H1
                    clear H1
                    have H' := Aside0.mk H
                    clear H
                    go_wp2
                    go_loopg [5] kj37 (fun kq v5 w' => ∃ (x5_4 : Int), v5 = .int .i64 x5_4 ∧ Aside0 (citadellaw01_WordAtomics.l0 kq a0 a1 x5_4 = some r) ∧ Aside0 (kq ≤ kj37) ∧ Aside0 (Below w.heap.size w w'))
                    case atStart => exact ⟨(1), (by first | rfl | (simp; done) | (simp [*]; done)), H', ⟨Nat.le_refl _⟩, ⟨by repeat (first | (with_reducible first | exact HB.out | apply below_alloc | apply pw_below_drewN | apply below_drew1) | exact HB.out)⟩⟩
                    case round =>
                      clear H'
                      try clear c1
                      try clear c2
                      try clear p2
                      try clear c3
                      try clear c4
                      try clear c5
                      try clear c5b0
                      try clear c5b1
                      try clear c7
                      try clear c7b0
                      try clear c7b1
                      try clear c14
                      try clear c15
                      try clear c18
                      try clear c19
                      try clear c19b0
                      try clear c19b1
                      try clear c22
                      try clear c22b0
                      try clear c22b1
                      try clear c37
                      try clear c42
                      try clear c52
                      try clear p2
                      obtain ⟨x5_4, rfl, HA, HK4, HB⟩ := hrel
                      cases gk with
                      | zero => exact absurd HA.out (by simp [citadellaw01_WordAtomics.l0])
                      | succ k4 =>
                        have H := HA.out
                        clear HA
                        simp only [citadellaw01_WordAtomics.l0] at H
                        by_cases c53 : x5_4 ≤ 9
                        · rw [if_pos c53] at H
                          have c53b0 : decide (x5_4 ≤ 9) = true := decide_eq_true c53
                          clear c53
                          replace H := Option.bind_eq_some_iff.mp H
                          obtain ⟨t331, A540, H⟩ := H
                          replace H : (if t331 ≥ 4294967296 then (some false) else ((word_Amo.f x5_4 4 (Int.tmod a0 4294967296) (Int.tmod a1 4294967296)).bind fun t332 => (if t331 = t332 then (citadellaw01_WordAtomics.l0 k4 a0 a1 (wrap64 (x5_4 + 1))) else (some false)))) = some r := H
                          have A54 := Aside0.mk A540
                          clear A540
                          by_cases c55 : t331 ≥ 4294967296
                          · rw [if_pos c55] at H
                            have c55b0 : decide (4294967296 ≤ t331) = true := decide_eq_true c55
                            clear c55
                            obtain rfl := Option.some.inj H
                            go_wp2_with (first | ((with_reducible refine gate_callee (f := 18) rfl ?_); refine goesL_ (some 90) rfl rfl Try.func18 (by kernel_rfl) rfl #[.int .i64 x5_4, .int .i64 4, .int .u64 a0, .int .u64 a1] rfl (by (try simp only [List.map_toArray, List.map_cons, List.map_nil]); first | done | rfl | (simp only [List.length_drop, List.length_take]; rfl)) ?_; (with_reducible refine (word_Amo.calls x5_4 4 a0 a1 t331 _ A54.out).mono ?_); rintro e w56 ⟨rfl, hb⟩; refine ⟨_, rfl, ?_⟩; have n0_ := Aside0.mk (below_step (by repeat (first | (with_reducible first | exact HB.out | apply below_alloc | apply pw_below_drewN | apply below_drew1) | exact HB.out)) hb); clear HB; have HB := n0_; clear n0_; (try clear hb); (try clear hb2); (try clear hk); (try clear hi)))
                            go_ret
                            exact ⟨by first | rfl | (simp [errW_none, errW_some] <;> rfl) | (simp [*, errW_none, errW_some] <;> rfl), by repeat (first | (with_reducible first | exact HB.out | apply below_alloc | apply pw_below_drewN | apply below_drew1) | exact HB.out)⟩
                          · rw [if_neg c55] at H
                            have c55b0 : decide (4294967296 ≤ t331) = false := decide_eq_false c55
                            clear c55
                            replace H := Option.bind_eq_some_iff.mp H
                            obtain ⟨t332, A570, H⟩ := H
                            replace H : (if t331 = t332 then (citadellaw01_WordAtomics.l0 k4 a0 a1 (wrap64 (x5_4 + 1))) else (some false)) = some r := H
                            have A57 := Aside0.mk A570
                            clear A570
                            by_cases c58 : t331 = t332
                            · rw [if_pos c58] at H
                              have c58b0 : (t331 == t332) = true := beq_iff_eq.mpr c58
                              have c58b1 : (t331 != t332) = false := bne_eq_false_iff_eq.mpr c58
                              clear c58
                              have H' := Aside0.mk H
                              clear H
                              go_wp2_with (first | ((with_reducible refine gate_callee (f := 18) rfl ?_); refine goesL_ (some 90) rfl rfl Try.func18 (by kernel_rfl) rfl #[.int .i64 x5_4, .int .i64 4, .int .u64 a0, .int .u64 a1] rfl (by (try simp only [List.map_toArray, List.map_cons, List.map_nil]); first | done | rfl | (simp only [List.length_drop, List.length_take]; rfl)) ?_; (with_reducible refine (word_Amo.calls x5_4 4 a0 a1 t331 _ A54.out).mono ?_); rintro e w59 ⟨rfl, hb⟩; refine ⟨_, rfl, ?_⟩; have n0_ := Aside0.mk (below_step (by repeat (first | (with_reducible first | exact HB.out | apply below_alloc | apply pw_below_drewN | apply below_drew1) | exact HB.out)) hb); clear HB; have HB := n0_; clear n0_; (try clear hb); (try clear hb2); (try clear hk); (try clear hi)) | (go_at_call 18; (with_reducible refine (word_Amo.calls x5_4 4 (Int.tmod a0 4294967296) (Int.tmod a1 4294967296) t332 _ A57.out).mono ?_); rintro e w60 ⟨rfl, hb⟩; have n0_ := Aside0.mk (below_step (by repeat (first | (with_reducible first | exact HB.out | apply below_alloc | apply pw_below_drewN | apply below_drew1) | exact HB.out)) hb); clear HB; have HB := n0_; clear n0_; (try clear hb); (try clear hb2); (try clear hk); (try clear hi)))
                              go_roundg k4
                              case measure => have := HJ2.out; have := HJ15.out; have := HJ37.out; have := HK4.out; omega
                              case rel => exact ⟨(wrap64 (x5_4 + 1)), (by first | rfl | (simp; done) | (simp [*]; done)), H', ⟨by have := HJ2.out; have := HJ15.out; have := HJ37.out; have := HK4.out; omega⟩, ⟨by repeat (first | (with_reducible first | exact HB.out | apply below_alloc | apply pw_below_drewN | apply below_drew1) | exact HB.out)⟩⟩
                            · rw [if_neg c58] at H
                              have c58b0 : (t331 == t332) = false := beq_eq_false_iff_ne.mpr c58
                              have c58b1 : (t331 != t332) = true := bne_iff_ne.mpr c58
                              obtain rfl := Option.some.inj H
                              go_wp2_with (first | ((with_reducible refine gate_callee (f := 18) rfl ?_); refine goesL_ (some 90) rfl rfl Try.func18 (by kernel_rfl) rfl #[.int .i64 x5_4, .int .i64 4, .int .u64 a0, .int .u64 a1] rfl (by (try simp only [List.map_toArray, List.map_cons, List.map_nil]); first | done | rfl | (simp only [List.length_drop, List.length_take]; rfl)) ?_; (with_reducible refine (word_Amo.calls x5_4 4 a0 a1 t331 _ A54.out).mono ?_); rintro e w61 ⟨rfl, hb⟩; refine ⟨_, rfl, ?_⟩; have n0_ := Aside0.mk (below_step (by repeat (first | (with_reducible first | exact HB.out | apply below_alloc | apply pw_below_drewN | apply below_drew1) | exact HB.out)) hb); clear HB; have HB := n0_; clear n0_; (try clear hb); (try clear hb2); (try clear hk); (try clear hi)) | (go_at_call 18; (with_reducible refine (word_Amo.calls x5_4 4 (Int.tmod a0 4294967296) (Int.tmod a1 4294967296) t332 _ A57.out).mono ?_); rintro e w62 ⟨rfl, hb⟩; have n0_ := Aside0.mk (below_step (by repeat (first | (with_reducible first | exact HB.out | apply below_alloc | apply pw_below_drewN | apply below_drew1) | exact HB.out)) hb); clear HB; have HB := n0_; clear n0_; (try clear hb); (try clear hb2); (try clear hk); (try clear hi)))
                              go_ret
                              exact ⟨by first | rfl | (simp [errW_none, errW_some] <;> rfl) | (simp [*, errW_none, errW_some] <;> rfl), by repeat (first | (with_reducible first | exact HB.out | apply below_alloc | apply pw_below_drewN | apply below_drew1) | exact HB.out)⟩
                        · rw [if_neg c53] at H
                          have c53b0 : decide (x5_4 ≤ 9) = false := decide_eq_false c53
                          clear c53
                          replace H := Option.bind_eq_some_iff.mp H
                          obtain ⟨t330, A630, H⟩ := H
                          replace H : (some t330) = some r := H
                          have A63 := Aside0.mk A630
                          clear A630
                          obtain rfl := Option.some.inj H
                          go_wp2_with (first | ((with_reducible refine gate_callee (f := 17) rfl ?_); refine goesL_ (some 103) rfl rfl Try.func17 (by kernel_rfl) rfl #[] rfl (by (try simp only [List.map_toArray, List.map_cons, List.map_nil]); first | done | rfl | (simp only [List.length_drop, List.length_take]; rfl)) ?_; (with_reducible refine (citadellaw01_awake.calls  t330 _ A63.out).mono ?_); rintro e w64 ⟨rfl, hb⟩; refine ⟨_, rfl, ?_⟩; have n0_ := Aside0.mk (below_step (by repeat (first | (with_reducible first | exact HB.out | apply below_alloc | apply pw_below_drewN | apply below_drew1) | exact HB.out)) hb); clear HB; have HB := n0_; clear n0_; (try clear hb); (try clear hb2); (try clear hk); (try clear hi)))
                          go_ret
                          exact ⟨by first | rfl | (simp [errW_none, errW_some] <;> rfl) | (simp [*, errW_none, errW_some] <;> rfl), by repeat (first | (with_reducible first | exact HB.out | apply below_alloc | apply pw_below_drewN | apply below_drew1) | exact HB.out)⟩

/-- THE ONE PURE STATEMENT of citadellaw01_WordAtomics: yours. -/
def citadellaw01_WordAtomics.Pure : Prop := ∀ (a0 : Int) (a1 : Int), (Lit.int .u64 a0).wf = true → (Lit.int .u64 a1).wf = true → ∃ k, citadellaw01_WordAtomics.f k a0 a1 = some true
theorem citadellaw01_WordAtomics.walk (P : citadellaw01_WordAtomics.Pure) (a0 : Int) (a1 : Int) (w : World) (w0 : (Lit.int .u64 a0).wf = true) (w1 : (Lit.int .u64 a1).wf = true) :
    Calls Try.prog 14 #[.int .u64 a0, .int .u64 a1] w fun e w' => e = .returned (.bool true) ∧ Below w.heap.size w w' := by
  obtain ⟨k, h⟩ := P a0 a1 w0 w1
  refine (citadellaw01_WordAtomics.calls k a0 a1 true w h).mono ?_
  rintro e w' ⟨rfl, hd⟩
  exact ⟨rfl, hd⟩

end Go.Proofs.Ytmfbijfghonnjaa.PA
