/- What the program's functions answer, call by call, and the row of a law; no conditions beyond each theorem's own. Written by a program of this repo (xprint.py, over the kit's printer, with contracts of the session's own). Lean checks it. -/
import Derived.Test.YtmfbijfghonnjaaPAx0
import Derived.Test.YtmfbijfghonnjaaPAx2
import Derived.Test.YtmfbijfghonnjaaPAx4
import Derived.Test.YtmfbijfghonnjaaPAx7
namespace Go.Proofs.Ytmfbijfghonnjaa.PA
open Go.RowKit Go.Proofs.YtmfbijfghonnjaaW.PrintWords Go.Proofs.YtmfbijfghonnjaaW.PrintLast Go.Proofs.YtmfbijfghonnjaaW.PrintMore
attribute [local go_sem] max2_int min2_int max_two min_two max_three min_three max_four min_four   -- for this text's walks alone
set_option linter.unusedVariables false
set_option linter.unusedSimpArgs false

/-! ### citadellaw01_WordWidens: function 11 -/
def citadellaw01_WordWidens.j0 : Nat → Int → Int → Int → Int → Bool → Bool → Option (Bool)
  | 0, _, _, _, _, _, _ => none
  | k + 1, x0, x5, x6, x7, x8, x55 => if x55 = true then (some false) else (if ((x6 == x7) == (!x8)) = true then (if 0 ≤ (IntKind.u64.wrap (wrap64 (8 * x5))) then (if x7 < (shl .u64 1 (IntKind.u64.wrap (wrap64 (8 * x5)))) then ((word_Alu.f 19 x0 0).bind fun t291 => ((word_Extend.f k x0 4 true).bind fun t292 => (if t291 = t292 then ((citadellaw01_awake.f).bind fun t293 => (some t293)) else (some false)))) else (some false)) else (none)) else (some false))
def citadellaw01_WordWidens.f (k : Nat) (a0 : Int) (a1 : Int) : Option (Bool) := (some (([1, 2, 4] : List Int) : List Int)).bind fun y281 => (if 0 ≤ (Int.tmod (wrap64 ((Int.tmod a1 3) + 3)) 3) then (if (Int.tmod (wrap64 ((Int.tmod a1 3) + 3)) 3) < (y281.length : Int) then ((word_Extend.f k a0 (rd y281 (Int.tmod (wrap64 ((Int.tmod a1 3) + 3)) 3)) true).bind fun t285 => ((word_Extend.f k a0 (rd y281 (Int.tmod (wrap64 ((Int.tmod a1 3) + 3)) 3)) false).bind fun t286 => (if 0 ≤ (IntKind.u64.wrap (wrap64 ((wrap64 (8 * (rd y281 (Int.tmod (wrap64 ((Int.tmod a1 3) + 3)) 3)))) - 1))) then ((word_Extend.f k t285 (rd y281 (Int.tmod (wrap64 ((Int.tmod a1 3) + 3)) 3)) true).bind fun t287 => (if t287 = t285 then ((word_Extend.f k t286 (rd y281 (Int.tmod (wrap64 ((Int.tmod a1 3) + 3)) 3)) false).bind fun t288 => (if t288 = t286 then ((word_Extend.f k t285 (rd y281 (Int.tmod (wrap64 ((Int.tmod a1 3) + 3)) 3)) false).bind fun t289 => (if t289 = t286 then ((word_Extend.f k t286 (rd y281 (Int.tmod (wrap64 ((Int.tmod a1 3) + 3)) 3)) true).bind fun t290 => (citadellaw01_WordWidens.j0 k a0 (rd y281 (Int.tmod (wrap64 ((Int.tmod a1 3) + 3)) 3)) t285 t286 ((Int.tmod (shr .u64 a0 (IntKind.u64.wrap (wrap64 ((wrap64 (8 * (rd y281 (Int.tmod (wrap64 ((Int.tmod a1 3) + 3)) 3)))) - 1)))) 2) == 1) (t290 != t285))) else (citadellaw01_WordWidens.j0 k a0 (rd y281 (Int.tmod (wrap64 ((Int.tmod a1 3) + 3)) 3)) t285 t286 ((Int.tmod (shr .u64 a0 (IntKind.u64.wrap (wrap64 ((wrap64 (8 * (rd y281 (Int.tmod (wrap64 ((Int.tmod a1 3) + 3)) 3)))) - 1)))) 2) == 1) true))) else (citadellaw01_WordWidens.j0 k a0 (rd y281 (Int.tmod (wrap64 ((Int.tmod a1 3) + 3)) 3)) t285 t286 ((Int.tmod (shr .u64 a0 (IntKind.u64.wrap (wrap64 ((wrap64 (8 * (rd y281 (Int.tmod (wrap64 ((Int.tmod a1 3) + 3)) 3)))) - 1)))) 2) == 1) true))) else (citadellaw01_WordWidens.j0 k a0 (rd y281 (Int.tmod (wrap64 ((Int.tmod a1 3) + 3)) 3)) t285 t286 ((Int.tmod (shr .u64 a0 (IntKind.u64.wrap (wrap64 ((wrap64 (8 * (rd y281 (Int.tmod (wrap64 ((Int.tmod a1 3) + 3)) 3)))) - 1)))) 2) == 1) true))) else (none)))) else (none)) else (none))
theorem citadellaw01_WordWidens.mono_l : ∀ k, (∀ y0 y1 y2 y3 y4 y5, LeO (citadellaw01_WordWidens.j0 k y0 y1 y2 y3 y4 y5) (citadellaw01_WordWidens.j0 (k + 1) y0 y1 y2 y3 y4 y5))
  | 0 => fun _ _ _ _ _ _ r h => by simp [citadellaw01_WordWidens.j0] at h
  | k + 1 => by
    have ih0 := citadellaw01_WordWidens.mono_l k
    · intro y0 y1 y2 y3 y4 y5
      unfold citadellaw01_WordWidens.j0
      repeat' first
      | (with_reducible exact ih0 _ _ _ _ _ _)
      | (with_reducible exact word_Extend.mono _ _ _ _)
      | (with_reducible exact LeO.refl _)
      | (with_reducible exact LeO.none _)
      | (with_reducible refine LeO.ite ?_ ?_)
      | (with_reducible refine LeO.bind ?_ (fun _ => ?_))
      | exact ih0 _ _ _ _ _ _
      | exact word_Extend.mono _ _ _ _
      | exact LeO.none _
      | refine LeO.ite ?_ ?_
      | refine LeO.bind ?_ (fun _ => ?_)
theorem citadellaw01_WordWidens.mono : ∀ a0 a1 k, LeO (citadellaw01_WordWidens.f k a0 a1) (citadellaw01_WordWidens.f (k + 1) a0 a1) := by
  intro a0 a1 k
  have ih0 := citadellaw01_WordWidens.mono_l k
  unfold citadellaw01_WordWidens.f
  repeat' first
      | (with_reducible exact ih0 _ _ _ _ _ _)
      | (with_reducible exact word_Extend.mono _ _ _ _)
      | (with_reducible exact LeO.refl _)
      | (with_reducible exact LeO.none _)
      | (with_reducible refine LeO.ite ?_ ?_)
      | (with_reducible refine LeO.bind ?_ (fun _ => ?_))
      | exact ih0 _ _ _ _ _ _
      | exact word_Extend.mono _ _ _ _
      | exact LeO.none _
      | refine LeO.ite ?_ ?_
      | refine LeO.bind ?_ (fun _ => ?_)
set_option maxHeartbeats 8000000 in
set_option maxRecDepth 100000 in
theorem citadellaw01_WordWidens.calls (k : Nat) (a0 : Int) (a1 : Int) (r : Bool) (w : World) (h : citadellaw01_WordWidens.f k a0 a1 = some r) :
    Calls Try.prog 11 #[.int .u64 a0, .int .i64 a1] w fun e w' => e = .returned (.bool r) ∧ Below w.heap.size w w' := by
  have HB := Aside0.mk (Below.refl w.heap.size w)
  have H : ((some (([1, 2, 4] : List Int) : List Int)).bind fun y281 => (if 0 ≤ (Int.tmod (wrap64 ((Int.tmod a1 3) + 3)) 3) then (if (Int.tmod (wrap64 ((Int.tmod a1 3) + 3)) 3) < (y281.length : Int) then ((word_Extend.f k a0 (rd y281 (Int.tmod (wrap64 ((Int.tmod a1 3) + 3)) 3)) true).bind fun t285 => ((word_Extend.f k a0 (rd y281 (Int.tmod (wrap64 ((Int.tmod a1 3) + 3)) 3)) false).bind fun t286 => (if 0 ≤ (IntKind.u64.wrap (wrap64 ((wrap64 (8 * (rd y281 (Int.tmod (wrap64 ((Int.tmod a1 3) + 3)) 3)))) - 1))) then ((word_Extend.f k t285 (rd y281 (Int.tmod (wrap64 ((Int.tmod a1 3) + 3)) 3)) true).bind fun t287 => (if t287 = t285 then ((word_Extend.f k t286 (rd y281 (Int.tmod (wrap64 ((Int.tmod a1 3) + 3)) 3)) false).bind fun t288 => (if t288 = t286 then ((word_Extend.f k t285 (rd y281 (Int.tmod (wrap64 ((Int.tmod a1 3) + 3)) 3)) false).bind fun t289 => (if t289 = t286 then ((word_Extend.f k t286 (rd y281 (Int.tmod (wrap64 ((Int.tmod a1 3) + 3)) 3)) true).bind fun t290 => (citadellaw01_WordWidens.j0 k a0 (rd y281 (Int.tmod (wrap64 ((Int.tmod a1 3) + 3)) 3)) t285 t286 ((Int.tmod (shr .u64 a0 (IntKind.u64.wrap (wrap64 ((wrap64 (8 * (rd y281 (Int.tmod (wrap64 ((Int.tmod a1 3) + 3)) 3)))) - 1)))) 2) == 1) (t290 != t285))) else (citadellaw01_WordWidens.j0 k a0 (rd y281 (Int.tmod (wrap64 ((Int.tmod a1 3) + 3)) 3)) t285 t286 ((Int.tmod (shr .u64 a0 (IntKind.u64.wrap (wrap64 ((wrap64 (8 * (rd y281 (Int.tmod (wrap64 ((Int.tmod a1 3) + 3)) 3)))) - 1)))) 2) == 1) true))) else (citadellaw01_WordWidens.j0 k a0 (rd y281 (Int.tmod (wrap64 ((Int.tmod a1 3) + 3)) 3)) t285 t286 ((Int.tmod (shr .u64 a0 (IntKind.u64.wrap (wrap64 ((wrap64 (8 * (rd y281 (Int.tmod (wrap64 ((Int.tmod a1 3) + 3)) 3)))) - 1)))) 2) == 1) true))) else (citadellaw01_WordWidens.j0 k a0 (rd y281 (Int.tmod (wrap64 ((Int.tmod a1 3) + 3)) 3)) t285 t286 ((Int.tmod (shr .u64 a0 (IntKind.u64.wrap (wrap64 ((wrap64 (8 * (rd y281 (Int.tmod (wrap64 ((Int.tmod a1 3) + 3)) 3)))) - 1)))) 2) == 1) true))) else (none)))) else (none)) else (none))) = some r := h
  clear h
  obtain ⟨y281, hy281⟩ : ∃ y_ : List Int, y_ = (([1, 2, 4] : List Int)) := ⟨_, rfl⟩
  replace H : (if 0 ≤ (Int.tmod (wrap64 ((Int.tmod a1 3) + 3)) 3) then (if (Int.tmod (wrap64 ((Int.tmod a1 3) + 3)) 3) < (y281.length : Int) then ((word_Extend.f k a0 (rd y281 (Int.tmod (wrap64 ((Int.tmod a1 3) + 3)) 3)) true).bind fun t285 => ((word_Extend.f k a0 (rd y281 (Int.tmod (wrap64 ((Int.tmod a1 3) + 3)) 3)) false).bind fun t286 => (if 0 ≤ (IntKind.u64.wrap (wrap64 ((wrap64 (8 * (rd y281 (Int.tmod (wrap64 ((Int.tmod a1 3) + 3)) 3)))) - 1))) then ((word_Extend.f k t285 (rd y281 (Int.tmod (wrap64 ((Int.tmod a1 3) + 3)) 3)) true).bind fun t287 => (if t287 = t285 then ((word_Extend.f k t286 (rd y281 (Int.tmod (wrap64 ((Int.tmod a1 3) + 3)) 3)) false).bind fun t288 => (if t288 = t286 then ((word_Extend.f k t285 (rd y281 (Int.tmod (wrap64 ((Int.tmod a1 3) + 3)) 3)) false).bind fun t289 => (if t289 = t286 then ((word_Extend.f k t286 (rd y281 (Int.tmod (wrap64 ((Int.tmod a1 3) + 3)) 3)) true).bind fun t290 => (citadellaw01_WordWidens.j0 k a0 (rd y281 (Int.tmod (wrap64 ((Int.tmod a1 3) + 3)) 3)) t285 t286 ((Int.tmod (shr .u64 a0 (IntKind.u64.wrap (wrap64 ((wrap64 (8 * (rd y281 (Int.tmod (wrap64 ((Int.tmod a1 3) + 3)) 3)))) - 1)))) 2) == 1) (t290 != t285))) else (citadellaw01_WordWidens.j0 k a0 (rd y281 (Int.tmod (wrap64 ((Int.tmod a1 3) + 3)) 3)) t285 t286 ((Int.tmod (shr .u64 a0 (IntKind.u64.wrap (wrap64 ((wrap64 (8 * (rd y281 (Int.tmod (wrap64 ((Int.tmod a1 3) + 3)) 3)))) - 1)))) 2) == 1) true))) else (citadellaw01_WordWidens.j0 k a0 (rd y281 (Int.tmod (wrap64 ((Int.tmod a1 3) + 3)) 3)) t285 t286 ((Int.tmod (shr .u64 a0 (IntKind.u64.wrap (wrap64 ((wrap64 (8 * (rd y281 (Int.tmod (wrap64 ((Int.tmod a1 3) + 3)) 3)))) - 1)))) 2) == 1) true))) else (citadellaw01_WordWidens.j0 k a0 (rd y281 (Int.tmod (wrap64 ((Int.tmod a1 3) + 3)) 3)) t285 t286 ((Int.tmod (shr .u64 a0 (IntKind.u64.wrap (wrap64 ((wrap64 (8 * (rd y281 (Int.tmod (wrap64 ((Int.tmod a1 3) + 3)) 3)))) - 1)))) 2) == 1) true))) else (none)))) else (none)) else (none)) = some r := by first | (rw [hy281]; with_reducible exact H) | (have H2_ := (Option.bind_some _ _).symm.trans H; rw [hy281]; with_reducible exact H2_) | (have H2_ := (Option.bind_some _ _).symm.trans H; with_reducible exact H2_) | with_reducible exact H | (rw [hy281]; exact H) | exact H
  have Ny281 := Aside0.mk hy281
  clear hy281
  obtain ⟨ji3, hji3⟩ : ∃ j_ : Int, (Int.tmod (wrap64 ((Int.tmod a1 3) + 3)) 3) = j_ := ⟨_, rfl⟩
  replace H : (if 0 ≤ (ji3) then (if (ji3) < (y281.length : Int) then ((word_Extend.f k a0 (rd y281 (ji3)) true).bind fun t285 => ((word_Extend.f k a0 (rd y281 (ji3)) false).bind fun t286 => (if 0 ≤ (IntKind.u64.wrap (wrap64 ((wrap64 (8 * (rd y281 (ji3)))) - 1))) then ((word_Extend.f k t285 (rd y281 (ji3)) true).bind fun t287 => (if t287 = t285 then ((word_Extend.f k t286 (rd y281 (ji3)) false).bind fun t288 => (if t288 = t286 then ((word_Extend.f k t285 (rd y281 (ji3)) false).bind fun t289 => (if t289 = t286 then ((word_Extend.f k t286 (rd y281 (ji3)) true).bind fun t290 => (citadellaw01_WordWidens.j0 k a0 (rd y281 (ji3)) t285 t286 ((Int.tmod (shr .u64 a0 (IntKind.u64.wrap (wrap64 ((wrap64 (8 * (rd y281 (ji3)))) - 1)))) 2) == 1) (t290 != t285))) else (citadellaw01_WordWidens.j0 k a0 (rd y281 (ji3)) t285 t286 ((Int.tmod (shr .u64 a0 (IntKind.u64.wrap (wrap64 ((wrap64 (8 * (rd y281 (ji3)))) - 1)))) 2) == 1) true))) else (citadellaw01_WordWidens.j0 k a0 (rd y281 (ji3)) t285 t286 ((Int.tmod (shr .u64 a0 (IntKind.u64.wrap (wrap64 ((wrap64 (8 * (rd y281 (ji3)))) - 1)))) 2) == 1) true))) else (citadellaw01_WordWidens.j0 k a0 (rd y281 (ji3)) t285 t286 ((Int.tmod (shr .u64 a0 (IntKind.u64.wrap (wrap64 ((wrap64 (8 * (rd y281 (ji3)))) - 1)))) 2) == 1) true))) else (none)))) else (none)) else (none)) = some r := by first | (rw [hji3] at H; exact H) | (simp only [hji3] at H ⊢; exact H)
  by_cases c4 : 0 ≤ (ji3)
  · rw [if_pos c4] at H
    have c4b0 : decide (0 ≤ (ji3)) = true := decide_eq_true c4
    clear c4
    by_cases c5 : (ji3) < (y281.length : Int)
    · rw [if_pos c5] at H
      have c5b0 : decide ((ji3) < (y281.length : Int)) = true := decide_eq_true c5
      clear c5
      replace H := Option.bind_eq_some_iff.mp H
      obtain ⟨t285, A60, H⟩ := H
      replace H : ((word_Extend.f k a0 (rd y281 (ji3)) false).bind fun t286 => (if 0 ≤ (IntKind.u64.wrap (wrap64 ((wrap64 (8 * (rd y281 (ji3)))) - 1))) then ((word_Extend.f k t285 (rd y281 (ji3)) true).bind fun t287 => (if t287 = t285 then ((word_Extend.f k t286 (rd y281 (ji3)) false).bind fun t288 => (if t288 = t286 then ((word_Extend.f k t285 (rd y281 (ji3)) false).bind fun t289 => (if t289 = t286 then ((word_Extend.f k t286 (rd y281 (ji3)) true).bind fun t290 => (citadellaw01_WordWidens.j0 k a0 (rd y281 (ji3)) t285 t286 ((Int.tmod (shr .u64 a0 (IntKind.u64.wrap (wrap64 ((wrap64 (8 * (rd y281 (ji3)))) - 1)))) 2) == 1) (t290 != t285))) else (citadellaw01_WordWidens.j0 k a0 (rd y281 (ji3)) t285 t286 ((Int.tmod (shr .u64 a0 (IntKind.u64.wrap (wrap64 ((wrap64 (8 * (rd y281 (ji3)))) - 1)))) 2) == 1) true))) else (citadellaw01_WordWidens.j0 k a0 (rd y281 (ji3)) t285 t286 ((Int.tmod (shr .u64 a0 (IntKind.u64.wrap (wrap64 ((wrap64 (8 * (rd y281 (ji3)))) - 1)))) 2) == 1) true))) else (citadellaw01_WordWidens.j0 k a0 (rd y281 (ji3)) t285 t286 ((Int.tmod (shr .u64 a0 (IntKind.u64.wrap (wrap64 ((wrap64 (8 * (rd y281 (ji3)))) - 1)))) 2) == 1) true))) else (none))) = some r := H
      have A6 := Aside0.mk A60
      clear A60
      replace H := Option.bind_eq_some_iff.mp H
      obtain ⟨t286, A70, H⟩ := H
      replace H : (if 0 ≤ (IntKind.u64.wrap (wrap64 ((wrap64 (8 * (rd y281 (ji3)))) - 1))) then ((word_Extend.f k t285 (rd y281 (ji3)) true).bind fun t287 => (if t287 = t285 then ((word_Extend.f k t286 (rd y281 (ji3)) false).bind fun t288 => (if t288 = t286 then ((word_Extend.f k t285 (rd y281 (ji3)) false).bind fun t289 => (if t289 = t286 then ((word_Extend.f k t286 (rd y281 (ji3)) true).bind fun t290 => (citadellaw01_WordWidens.j0 k a0 (rd y281 (ji3)) t285 t286 ((Int.tmod (shr .u64 a0 (IntKind.u64.wrap (wrap64 ((wrap64 (8 * (rd y281 (ji3)))) - 1)))) 2) == 1) (t290 != t285))) else (citadellaw01_WordWidens.j0 k a0 (rd y281 (ji3)) t285 t286 ((Int.tmod (shr .u64 a0 (IntKind.u64.wrap (wrap64 ((wrap64 (8 * (rd y281 (ji3)))) - 1)))) 2) == 1) true))) else (citadellaw01_WordWidens.j0 k a0 (rd y281 (ji3)) t285 t286 ((Int.tmod (shr .u64 a0 (IntKind.u64.wrap (wrap64 ((wrap64 (8 * (rd y281 (ji3)))) - 1)))) 2) == 1) true))) else (citadellaw01_WordWidens.j0 k a0 (rd y281 (ji3)) t285 t286 ((Int.tmod (shr .u64 a0 (IntKind.u64.wrap (wrap64 ((wrap64 (8 * (rd y281 (ji3)))) - 1)))) 2) == 1) true))) else (none)) = some r := H
      have A7 := Aside0.mk A70
      clear A70
      obtain ⟨ji8, hji8⟩ : ∃ j_ : Int, (IntKind.u64.wrap (wrap64 ((wrap64 (8 * (rd y281 (ji3)))) - 1))) = j_ := ⟨_, rfl⟩
      replace H : (if 0 ≤ (ji8) then ((word_Extend.f k t285 (rd y281 (ji3)) true).bind fun t287 => (if t287 = t285 then ((word_Extend.f k t286 (rd y281 (ji3)) false).bind fun t288 => (if t288 = t286 then ((word_Extend.f k t285 (rd y281 (ji3)) false).bind fun t289 => (if t289 = t286 then ((word_Extend.f k t286 (rd y281 (ji3)) true).bind fun t290 => (citadellaw01_WordWidens.j0 k a0 (rd y281 (ji3)) t285 t286 ((Int.tmod (shr .u64 a0 (ji8)) 2) == 1) (t290 != t285))) else (citadellaw01_WordWidens.j0 k a0 (rd y281 (ji3)) t285 t286 ((Int.tmod (shr .u64 a0 (ji8)) 2) == 1) true))) else (citadellaw01_WordWidens.j0 k a0 (rd y281 (ji3)) t285 t286 ((Int.tmod (shr .u64 a0 (ji8)) 2) == 1) true))) else (citadellaw01_WordWidens.j0 k a0 (rd y281 (ji3)) t285 t286 ((Int.tmod (shr .u64 a0 (ji8)) 2) == 1) true))) else (none)) = some r := by first | (rw [hji8] at H; exact H) | (simp only [hji8] at H ⊢; exact H)
      (try rw [hji8] at A6)
      (try rw [hji8] at A7)
      by_cases c9 : 0 ≤ (ji8)
      · rw [if_pos c9] at H
        have c9b0 := eq_true c9
        have c9b1 : decide (0 ≤ (ji8)) = true := decide_eq_true c9
        clear c9
        obtain ⟨ji10, hji10⟩ : ∃ j_ : Int, (shr .u64 a0 (ji8)) = j_ := ⟨_, rfl⟩
        replace H : ((word_Extend.f k t285 (rd y281 (ji3)) true).bind fun t287 => (if t287 = t285 then ((word_Extend.f k t286 (rd y281 (ji3)) false).bind fun t288 => (if t288 = t286 then ((word_Extend.f k t285 (rd y281 (ji3)) false).bind fun t289 => (if t289 = t286 then ((word_Extend.f k t286 (rd y281 (ji3)) true).bind fun t290 => (citadellaw01_WordWidens.j0 k a0 (rd y281 (ji3)) t285 t286 ((Int.tmod (ji10) 2) == 1) (t290 != t285))) else (citadellaw01_WordWidens.j0 k a0 (rd y281 (ji3)) t285 t286 ((Int.tmod (ji10) 2) == 1) true))) else (citadellaw01_WordWidens.j0 k a0 (rd y281 (ji3)) t285 t286 ((Int.tmod (ji10) 2) == 1) true))) else (citadellaw01_WordWidens.j0 k a0 (rd y281 (ji3)) t285 t286 ((Int.tmod (ji10) 2) == 1) true))) = some r := by first | (rw [hji10] at H; exact H) | (simp only [hji10] at H ⊢; exact H)
        (try rw [hji10] at A6)
        (try rw [hji10] at A7)
        have hji10_ : (a0 / 2 ^ min (ji8).toNat 64) = ji10 := hji10
        have hji10z : (ji8) ≤ 64 → (a0 / 2 ^ (ji8).toNat) = ji10 := shr_small hji10
        have HC11 := Aside0.mk H
        clear H
        go_enter Try.func11, Try.ntmps11
        go_upto_region 5 with (first | ((with_reducible refine gate_dst (N := 9) rfl ?_); refine Kd.R_lit (Kd.int .i64) _ 3 ?hg (N := 9) ?hd (xs := ([1, 2, 4] : List Int)) (inner := [.int .i64 1, .int .i64 2, .int .i64 4]) (ok := fun _ => True) (okp := fun _ => True) ?hr ?hp (fun _ hk => hk) trivial (Below.refl _ _) (Nat.le_refl _) (by simp) ?_; (case hd => rfl); (case hg => rfl); (case hr => first | (go_simp; done) | (go_simp; rfl)); (case hp => exact (Reps.one (show Kd.M (Kd.int .i64) _ _ _ 1 [.int .i64 1] from rfl) (Reps.one (show Kd.M (Kd.int .i64) _ _ _ 2 [.int .i64 2] from rfl) (Reps.one (show Kd.M (Kd.int .i64) _ _ _ 4 [.int .i64 4] from rfl) (Reps.none _ _))))); intro v282 w12 ho13 hb hg_ hnew_; clear hg_ hnew_; (first | rw [← Ny281.out] at ho13 | (simp only [Int.reduceToNat] at ho13; rw [← Ny281.out] at ho13)); have n0_ := Aside0.mk (Kd.R_lower ho13 (below_size (by repeat (first | (with_reducible first | exact HB.out | apply below_alloc | apply pw_below_drewN | apply below_drew1) | exact HB.out)))); have n1_ := Aside0.mk (below_step (by repeat (first | (with_reducible first | exact HB.out | apply below_alloc | apply pw_below_drewN | apply below_drew1) | exact HB.out)) hb); clear HB; have HO283 := n0_; have HB := n1_; clear n0_ n1_; clear hb ho13; obtain ⟨Ao14, co14, eo14⟩ := Kd.R_slice HO283.out; subst eo14; have p284 : 0 ≤ ((ji3) : Int) := of_decide_eq_true (by first | (with_reducible assumption) | assumption); have q284 : (ji3) < (y281.length : Int) := of_decide_eq_true (by first | (with_reducible assumption) | assumption); obtain ⟨ad284, e284, hx284_0⟩ := Kd.at_int (Kd.R_reads' HO283.out).2.2 (ji3) p284 q284; cases e284; replace p284 := eq_true p284; replace q284 := eq_true q284) | ((with_reducible refine gate_callee (f := 20) rfl ?_); refine goesL_ (some 18) rfl rfl Try.func20 (by kernel_rfl) rfl #[.int .u64 a0, .int .i64 (rd y281 (ji3)), .bool true] rfl (by (try simp only [List.map_toArray, List.map_cons, List.map_nil]); first | done | (simp only [hji3]; rfl) | rfl | (simp only [List.length_drop, List.length_take]; rfl)) ?_; (with_reducible refine (word_Extend.calls k a0 (rd y281 (ji3)) true t285 _ A6.out).mono ?_); rintro e w' ⟨rfl, ⟨nd, rfl⟩⟩; refine ⟨_, rfl, ?_⟩) | ((with_reducible refine gate_callee (f := 20) rfl ?_); refine goesL_ (some 21) rfl rfl Try.func20 (by kernel_rfl) rfl #[.int .u64 a0, .int .i64 (rd y281 (ji3)), .bool false] rfl (by (try simp only [List.map_toArray, List.map_cons, List.map_nil]); first | done | (simp only [hji3]; rfl) | rfl | (simp only [List.length_drop, List.length_take]; rfl)) ?_; (with_reducible refine (word_Extend.calls k a0 (rd y281 (ji3)) false t286 _ A7.out).mono ?_); rintro e w' ⟨rfl, ⟨nd, rfl⟩⟩; refine ⟨_, rfl, ?_⟩))
        (try simp only [Act.put, List.setIfInBounds_toArray, List.set_cons_zero, List.set_cons_succ])
        go_cut [55] (fun v55 wc => ∃ (kq : Nat) (x55_10 : Bool), v55 = .bool x55_10 ∧ Aside0 (citadellaw01_WordWidens.j0 kq a0 (rd y281 (ji3)) t285 t286 ((Int.tmod (ji10) 2) == 1) x55_10 = some r) ∧ Aside0 (kq ≤ k) ∧ Aside0 (Below w.heap.size w wc))
        case first =>
          have H := HC11.out
          clear HC11
          replace H := Option.bind_eq_some_iff.mp H
          obtain ⟨t287, A150, H⟩ := H
          replace H : (if t287 = t285 then ((word_Extend.f k t286 (rd y281 (ji3)) false).bind fun t288 => (if t288 = t286 then ((word_Extend.f k t285 (rd y281 (ji3)) false).bind fun t289 => (if t289 = t286 then ((word_Extend.f k t286 (rd y281 (ji3)) true).bind fun t290 => (citadellaw01_WordWidens.j0 k a0 (rd y281 (ji3)) t285 t286 ((Int.tmod (ji10) 2) == 1) (t290 != t285))) else (citadellaw01_WordWidens.j0 k a0 (rd y281 (ji3)) t285 t286 ((Int.tmod (ji10) 2) == 1) true))) else (citadellaw01_WordWidens.j0 k a0 (rd y281 (ji3)) t285 t286 ((Int.tmod (ji10) 2) == 1) true))) else (citadellaw01_WordWidens.j0 k a0 (rd y281 (ji3)) t285 t286 ((Int.tmod (ji10) 2) == 1) true)) = some r := H
          have A15 := Aside0.mk A150
          clear A150
          by_cases c16 : t287 = t285
          · rw [if_pos c16] at H
            have c16b0 : (t287 == t285) = true := beq_iff_eq.mpr c16
            have c16b1 : (t287 != t285) = false := bne_eq_false_iff_eq.mpr c16
            clear c16
            (first | rw [c16b0] | (simp only [i64_w, i32_w]; rw [c16b0]) | skip)
            replace H := Option.bind_eq_some_iff.mp H
            obtain ⟨t288, A170, H⟩ := H
            replace H : (if t288 = t286 then ((word_Extend.f k t285 (rd y281 (ji3)) false).bind fun t289 => (if t289 = t286 then ((word_Extend.f k t286 (rd y281 (ji3)) true).bind fun t290 => (citadellaw01_WordWidens.j0 k a0 (rd y281 (ji3)) t285 t286 ((Int.tmod (ji10) 2) == 1) (t290 != t285))) else (citadellaw01_WordWidens.j0 k a0 (rd y281 (ji3)) t285 t286 ((Int.tmod (ji10) 2) == 1) true))) else (citadellaw01_WordWidens.j0 k a0 (rd y281 (ji3)) t285 t286 ((Int.tmod (ji10) 2) == 1) true)) = some r := H
            have A17 := Aside0.mk A170
            clear A170
            by_cases c18 : t288 = t286
            · rw [if_pos c18] at H
              have c18b0 : (t288 == t286) = true := beq_iff_eq.mpr c18
              have c18b1 : (t288 != t286) = false := bne_eq_false_iff_eq.mpr c18
              clear c18
              replace H := Option.bind_eq_some_iff.mp H
              obtain ⟨t289, A190, H⟩ := H
              replace H : (if t289 = t286 then ((word_Extend.f k t286 (rd y281 (ji3)) true).bind fun t290 => (citadellaw01_WordWidens.j0 k a0 (rd y281 (ji3)) t285 t286 ((Int.tmod (ji10) 2) == 1) (t290 != t285))) else (citadellaw01_WordWidens.j0 k a0 (rd y281 (ji3)) t285 t286 ((Int.tmod (ji10) 2) == 1) true)) = some r := H
              have A19 := Aside0.mk A190
              clear A190
              by_cases c20 : t289 = t286
              · rw [if_pos c20] at H
                have c20b0 : (t289 == t286) = true := beq_iff_eq.mpr c20
                have c20b1 : (t289 != t286) = false := bne_eq_false_iff_eq.mpr c20
                clear c20
                replace H := Option.bind_eq_some_iff.mp H
                obtain ⟨t290, A210, H⟩ := H
                replace H : (citadellaw01_WordWidens.j0 k a0 (rd y281 (ji3)) t285 t286 ((Int.tmod (ji10) 2) == 1) (t290 != t285)) = some r := H
                have A21 := Aside0.mk A210
                clear A210
                have H' := Aside0.mk H
                clear H
                go_wp2_with (first | ((with_reducible refine gate_callee (f := 20) rfl ?_); refine goesL_ (some 32) rfl rfl Try.func20 (by kernel_rfl) rfl #[.int .u64 t285, .int .i64 (rd y281 (ji3)), .bool true] rfl (by (try simp only [List.map_toArray, List.map_cons, List.map_nil]); first | done | (simp only [hji3]; rfl) | rfl | (simp only [List.length_drop, List.length_take]; rfl)) ?_; (with_reducible refine (word_Extend.calls k t285 (rd y281 (ji3)) true t287 _ A15.out).mono ?_); rintro e w' ⟨rfl, ⟨nd, rfl⟩⟩; refine ⟨_, rfl, ?_⟩) | (go_at_call 20; (with_reducible refine (word_Extend.calls k t286 (rd y281 (ji3)) false t288 _ A17.out).mono ?_); rintro e w' ⟨rfl, ⟨nd, rfl⟩⟩) | (go_at_call 20; (with_reducible refine (word_Extend.calls k t285 (rd y281 (ji3)) false t289 _ A19.out).mono ?_); rintro e w' ⟨rfl, ⟨nd, rfl⟩⟩) | (go_at_call 20; (with_reducible refine (word_Extend.calls k t286 (rd y281 (ji3)) true t290 _ A21.out).mono ?_); rintro e w' ⟨rfl, ⟨nd, rfl⟩⟩))
                go_meet
                case rel => exact ⟨_, ((t290 != t285)), (by first | rfl | (simp; done) | (simp [*]; done)), H', ⟨by first | omega | exact Nat.le_refl _⟩, ⟨by repeat (first | (with_reducible first | exact HB.out | apply below_alloc | apply pw_below_drewN | apply below_drew1) | exact HB.out)⟩⟩
              · rw [if_neg c20] at H
                have c20b0 : (t289 == t286) = false := beq_eq_false_iff_ne.mpr c20
                have c20b1 : (t289 != t286) = true := bne_iff_ne.mpr c20
                have H' := Aside0.mk H
                clear H
                go_wp2_with (first | ((with_reducible refine gate_callee (f := 20) rfl ?_); refine goesL_ (some 32) rfl rfl Try.func20 (by kernel_rfl) rfl #[.int .u64 t285, .int .i64 (rd y281 (ji3)), .bool true] rfl (by (try simp only [List.map_toArray, List.map_cons, List.map_nil]); first | done | (simp only [hji3]; rfl) | rfl | (simp only [List.length_drop, List.length_take]; rfl)) ?_; (with_reducible refine (word_Extend.calls k t285 (rd y281 (ji3)) true t287 _ A15.out).mono ?_); rintro e w' ⟨rfl, ⟨nd, rfl⟩⟩; refine ⟨_, rfl, ?_⟩) | (go_at_call 20; (with_reducible refine (word_Extend.calls k t286 (rd y281 (ji3)) false t288 _ A17.out).mono ?_); rintro e w' ⟨rfl, ⟨nd, rfl⟩⟩) | (go_at_call 20; (with_reducible refine (word_Extend.calls k t285 (rd y281 (ji3)) false t289 _ A19.out).mono ?_); rintro e w' ⟨rfl, ⟨nd, rfl⟩⟩))
                go_meet
                case rel => exact ⟨_, (true), (by first | rfl | (simp; done) | (simp [*]; done)), H', ⟨by first | omega | exact Nat.le_refl _⟩, ⟨by repeat (first | (with_reducible first | exact HB.out | apply below_alloc | apply pw_below_drewN | apply below_drew1) | exact HB.out)⟩⟩
            · rw [if_neg c18] at H
              have c18b0 : (t288 == t286) = false := beq_eq_false_iff_ne.mpr c18
              have c18b1 : (t288 != t286) = true := bne_iff_ne.mpr c18
              have H' := Aside0.mk H
              clear H
              go_wp2_with (first | ((with_reducible refine gate_callee (f := 20) rfl ?_); refine goesL_ (some 32) rfl rfl Try.func20 (by kernel_rfl) rfl #[.int .u64 t285, .int .i64 (rd y281 (ji3)), .bool true] rfl (by (try simp only [List.map_toArray, List.map_cons, List.map_nil]); first | done | (simp only [hji3]; rfl) | rfl | (simp only [List.length_drop, List.length_take]; rfl)) ?_; (with_reducible refine (word_Extend.calls k t285 (rd y281 (ji3)) true t287 _ A15.out).mono ?_); rintro e w' ⟨rfl, ⟨nd, rfl⟩⟩; refine ⟨_, rfl, ?_⟩) | (go_at_call 20; (with_reducible refine (word_Extend.calls k t286 (rd y281 (ji3)) false t288 _ A17.out).mono ?_); rintro e w' ⟨rfl, ⟨nd, rfl⟩⟩))
              go_meet
              case rel => exact ⟨_, (true), (by first | rfl | (simp; done) | (simp [*]; done)), H', ⟨by first | omega | exact Nat.le_refl _⟩, ⟨by repeat (first | (with_reducible first | exact HB.out | apply below_alloc | apply pw_below_drewN | apply below_drew1) | exact HB.out)⟩⟩
          · rw [if_neg c16] at H
            have c16b0 : (t287 == t285) = false := beq_eq_false_iff_ne.mpr c16
            have c16b1 : (t287 != t285) = true := bne_iff_ne.mpr c16
            (first | rw [c16b0] | (simp only [i64_w, i32_w]; rw [c16b0]) | skip)
            have H' := Aside0.mk H
            clear H
            go_wp2_with (first | ((with_reducible refine gate_callee (f := 20) rfl ?_); refine goesL_ (some 32) rfl rfl Try.func20 (by kernel_rfl) rfl #[.int .u64 t285, .int .i64 (rd y281 (ji3)), .bool true] rfl (by (try simp only [List.map_toArray, List.map_cons, List.map_nil]); first | done | (simp only [hji3]; rfl) | rfl | (simp only [List.length_drop, List.length_take]; rfl)) ?_; (with_reducible refine (word_Extend.calls k t285 (rd y281 (ji3)) true t287 _ A15.out).mono ?_); rintro e w' ⟨rfl, ⟨nd, rfl⟩⟩; refine ⟨_, rfl, ?_⟩))
            go_meet
            case rel => exact ⟨_, (true), (by first | rfl | (simp; done) | (simp [*]; done)), H', ⟨by first | omega | exact Nat.le_refl _⟩, ⟨by repeat (first | (with_reducible first | exact HB.out | apply below_alloc | apply pw_below_drewN | apply below_drew1) | exact HB.out)⟩⟩
        case rest =>
          clear HC11
          try clear c1
          try clear c2
          try clear p2
          try clear q2
          try clear hx2
          try clear c4
          try clear c4b0
          try clear c5
          try clear c5b0
          try clear p6
          try clear c9
          try clear c9b0
          try clear c9b1
          try clear c11
          try clear c16
          try clear c16b0
          try clear c16b1
          try clear c18
          try clear c18b0
          try clear c18b1
          try clear c20
          try clear c20b0
          try clear c20b1
          try clear hx284_0
          try clear p284
          try clear q284
          obtain ⟨kq, x55_10, rfl, HA, HJ10, HB⟩ := hcut
          cases kq with
          | zero => exact absurd HA.out (by simp [citadellaw01_WordWidens.j0])
          | succ kj10 =>
            have H := HA.out
            clear HA
            simp only [citadellaw01_WordWidens.j0] at H
            by_cases c22 : x55_10 = true
            · subst c22
              have H1 : (some false) = some r := by rw [if_pos rfl] at H; exact H
              clear H
              have H := H1
              clear H1
              obtain rfl := Option.some.inj H
              go_wp2
              go_ret
              exact ⟨by first | rfl | (simp [errW_none, errW_some] <;> rfl) | (simp only [← hji3, ← hji8, ← hji10]; first | rfl | (simp [errW_none, errW_some] <;> rfl)) | (simp [*, errW_none, errW_some] <;> rfl), by repeat (first | (with_reducible first | exact HB.out | apply below_alloc | apply pw_below_drewN | apply below_drew1) | exact HB.out)⟩
            · replace c22 := Bool.eq_false_iff.mpr c22
              subst c22
              have H1 : (if ((t285 == t286) == (!((Int.tmod (ji10) 2) == 1))) = true then (if 0 ≤ (IntKind.u64.wrap (wrap64 (8 * (rd y281 (ji3))))) then (if t286 < (shl .u64 1 (IntKind.u64.wrap (wrap64 (8 * (rd y281 (ji3)))))) then ((word_Alu.f 19 a0 0).bind fun t291 => ((word_Extend.f kj10 a0 4 true).bind fun t292 => (if t291 = t292 then ((citadellaw01_awake.f).bind fun t293 => (some t293)) else (some false)))) else (some false)) else (none)) else (some false)) = some r := by rw [if_neg (show ¬ (false = true) by decide)] at H; exact H
              clear H
              have H := H1
              clear H1
              by_cases c23 : ((t285 == t286) == (!((Int.tmod (ji10) 2) == 1))) = true
              · rw [if_pos c23] at H
                have c23b0 : ((t285 == t286) == (!((Int.tmod (ji10) 2) == 1))) = true := c23
                (try (have c23b1 : decide ((t285 == t286) = (!((Int.tmod (ji10) 2) == 1))) = true := by simpa using c23))
                (try (have c23b2 : ((t285 == t286) == (!((Int.tmod (ji10) 2) == 1))) = true := by simpa using c23))
                clear c23
                obtain ⟨ji24, hji24⟩ : ∃ j_ : Int, (IntKind.u64.wrap (wrap64 (8 * (rd y281 (ji3))))) = j_ := ⟨_, rfl⟩
                replace H : (if 0 ≤ (ji24) then (if t286 < (shl .u64 1 (ji24)) then ((word_Alu.f 19 a0 0).bind fun t291 => ((word_Extend.f kj10 a0 4 true).bind fun t292 => (if t291 = t292 then ((citadellaw01_awake.f).bind fun t293 => (some t293)) else (some false)))) else (some false)) else (none)) = some r := by first | (rw [hji24] at H; exact H) | (simp only [hji24] at H ⊢; exact H)
                by_cases c25 : 0 ≤ (ji24)
                · rw [if_pos c25] at H
                  have c25b0 := eq_true c25
                  have c25b1 : decide (0 ≤ (ji24)) = true := decide_eq_true c25
                  clear c25
                  obtain ⟨ji26, hji26⟩ : ∃ j_ : Int, (shl .u64 1 (ji24)) = j_ := ⟨_, rfl⟩
                  replace H : (if t286 < (ji26) then ((word_Alu.f 19 a0 0).bind fun t291 => ((word_Extend.f kj10 a0 4 true).bind fun t292 => (if t291 = t292 then ((citadellaw01_awake.f).bind fun t293 => (some t293)) else (some false)))) else (some false)) = some r := by first | (rw [hji26] at H; exact H) | (simp only [hji26] at H ⊢; exact H)
                  have hji26_ : (IntKind.u64.wrap (1 * 2 ^ min (ji24).toNat 64)) = ji26 := hji26
                  have hji26z : (ji24) ≤ 64 → (IntKind.u64.wrap (1 * 2 ^ (ji24).toNat)) = ji26 := shl_small hji26
                  have hji26u : (IntKind.u64.wrap (2 ^ min (ji24).toNat 64)) = ji26 := by have h_ := hji26_; rw [Int.one_mul] at h_; exact h_
                  have hji26v : (ji24) ≤ 64 → (IntKind.u64.wrap (2 ^ (ji24).toNat)) = ji26 := fun hle_ => by have h_ := hji26z hle_; rw [Int.one_mul] at h_; exact h_
                  by_cases c27 : t286 < (ji26)
                  · rw [if_pos c27] at H
                    have c27b0 : decide (t286 < (ji26)) = true := decide_eq_true c27
                    clear c27
                    replace H := Option.bind_eq_some_iff.mp H
                    obtain ⟨t291, A280, H⟩ := H
                    replace H : ((word_Extend.f kj10 a0 4 true).bind fun t292 => (if t291 = t292 then ((citadellaw01_awake.f).bind fun t293 => (some t293)) else (some false))) = some r := H
                    have A28 := Aside0.mk A280
                    clear A280
                    replace H := Option.bind_eq_some_iff.mp H
                    obtain ⟨t292, A290, H⟩ := H
                    replace H : (if t291 = t292 then ((citadellaw01_awake.f).bind fun t293 => (some t293)) else (some false)) = some r := H
                    have A29 := Aside0.mk A290
                    clear A290
                    by_cases c30 : t291 = t292
                    · rw [if_pos c30] at H
                      have c30b0 : (t291 == t292) = true := beq_iff_eq.mpr c30
                      have c30b1 : (t291 != t292) = false := bne_eq_false_iff_eq.mpr c30
                      clear c30
                      replace H := Option.bind_eq_some_iff.mp H
                      obtain ⟨t293, A310, H⟩ := H
                      replace H : (some t293) = some r := H
                      have A31 := Aside0.mk A310
                      clear A310
                      obtain rfl := Option.some.inj H
                      go_wp2_with (first | (go_at_call 15; (with_reducible refine (word_Alu.calls 19 a0 0 t291 _ A28.out).mono ?_); rintro e w32 ⟨rfl, hb⟩; have n0_ := Aside0.mk (below_step (by repeat (first | (with_reducible first | exact HB.out | apply below_alloc | apply pw_below_drewN | apply below_drew1) | exact HB.out)) hb); clear HB; have HB := n0_; clear n0_; (try clear hb); (try clear hb2); (try clear hk); (try clear hi)) | (go_at_call 20; (with_reducible refine (word_Extend.calls kj10 a0 4 true t292 _ A29.out).mono ?_); rintro e w' ⟨rfl, ⟨nd, rfl⟩⟩) | (go_at_call 17; (with_reducible refine (citadellaw01_awake.calls  t293 _ A31.out).mono ?_); rintro e w33 ⟨rfl, hb⟩; have n0_ := Aside0.mk (below_step (by repeat (first | (with_reducible first | exact HB.out | apply below_alloc | apply pw_below_drewN | apply below_drew1) | exact HB.out)) hb); clear HB; have HB := n0_; clear n0_; (try clear hb); (try clear hb2); (try clear hk); (try clear hi)))
                      go_ret
                      exact ⟨by first | rfl | (simp [errW_none, errW_some] <;> rfl) | (simp only [← hji3, ← hji8, ← hji10, ← hji24, ← hji26]; first | rfl | (simp [errW_none, errW_some] <;> rfl)) | (simp [*, errW_none, errW_some] <;> rfl), by repeat (first | (with_reducible first | exact HB.out | apply below_alloc | apply pw_below_drewN | apply below_drew1) | exact HB.out)⟩
                    · rw [if_neg c30] at H
                      have c30b0 : (t291 == t292) = false := beq_eq_false_iff_ne.mpr c30
                      have c30b1 : (t291 != t292) = true := bne_iff_ne.mpr c30
                      obtain rfl := Option.some.inj H
                      go_wp2_with (first | (go_at_call 15; (with_reducible refine (word_Alu.calls 19 a0 0 t291 _ A28.out).mono ?_); rintro e w34 ⟨rfl, hb⟩; have n0_ := Aside0.mk (below_step (by repeat (first | (with_reducible first | exact HB.out | apply below_alloc | apply pw_below_drewN | apply below_drew1) | exact HB.out)) hb); clear HB; have HB := n0_; clear n0_; (try clear hb); (try clear hb2); (try clear hk); (try clear hi)) | (go_at_call 20; (with_reducible refine (word_Extend.calls kj10 a0 4 true t292 _ A29.out).mono ?_); rintro e w' ⟨rfl, ⟨nd, rfl⟩⟩))
                      go_ret
                      exact ⟨by first | rfl | (simp [errW_none, errW_some] <;> rfl) | (simp only [← hji3, ← hji8, ← hji10, ← hji24, ← hji26]; first | rfl | (simp [errW_none, errW_some] <;> rfl)) | (simp [*, errW_none, errW_some] <;> rfl), by repeat (first | (with_reducible first | exact HB.out | apply below_alloc | apply pw_below_drewN | apply below_drew1) | exact HB.out)⟩
                  · rw [if_neg c27] at H
                    have c27b0 : decide (t286 < (ji26)) = false := decide_eq_false c27
                    clear c27
                    obtain rfl := Option.some.inj H
                    go_wp2
                    go_ret
                    exact ⟨by first | rfl | (simp [errW_none, errW_some] <;> rfl) | (simp only [← hji3, ← hji8, ← hji10, ← hji24, ← hji26]; first | rfl | (simp [errW_none, errW_some] <;> rfl)) | (simp [*, errW_none, errW_some] <;> rfl), by repeat (first | (with_reducible first | exact HB.out | apply below_alloc | apply pw_below_drewN | apply below_drew1) | exact HB.out)⟩
                · rw [if_neg c25] at H
                  exact absurd H (by simp)
              · rw [if_neg c23] at H
                have c23b0 : ((t285 == t286) == (!((Int.tmod (ji10) 2) == 1))) = false := by simpa using c23
                (try (have c23b1 : decide ((t285 == t286) = (!((Int.tmod (ji10) 2) == 1))) = false := by simpa using c23))
                (try (have c23b2 : ((t285 == t286) == (!((Int.tmod (ji10) 2) == 1))) = false := by simpa using c23))
                (try (have c23b3 : ¬ ((t285 == t286) = (!((Int.tmod (ji10) 2) == 1))) := by simpa using c23))
                clear c23
                obtain rfl := Option.some.inj H
                go_wp2
                go_ret
                exact ⟨by first | rfl | (simp [errW_none, errW_some] <;> rfl) | (simp only [← hji3, ← hji8, ← hji10]; first | rfl | (simp [errW_none, errW_some] <;> rfl)) | (simp [*, errW_none, errW_some] <;> rfl), by repeat (first | (with_reducible first | exact HB.out | apply below_alloc | apply pw_below_drewN | apply below_drew1) | exact HB.out)⟩
      · rw [if_neg c9] at H
        exact absurd H (by simp)
    · rw [if_neg c5] at H
      exact absurd H (by simp)
  · rw [if_neg c4] at H
    exact absurd H (by simp)

/-- THE ONE PURE STATEMENT of citadellaw01_WordWidens: yours. -/
def citadellaw01_WordWidens.Pure : Prop := ∀ (a0 : Int) (a1 : Int), (Lit.int .u64 a0).wf = true → (Lit.int .i64 a1).wf = true → ∃ k, citadellaw01_WordWidens.f k a0 a1 = some true
theorem citadellaw01_WordWidens.walk (P : citadellaw01_WordWidens.Pure) (a0 : Int) (a1 : Int) (w : World) (w0 : (Lit.int .u64 a0).wf = true) (w1 : (Lit.int .i64 a1).wf = true) :
    Calls Try.prog 11 #[.int .u64 a0, .int .i64 a1] w fun e w' => e = .returned (.bool true) ∧ Below w.heap.size w w' := by
  obtain ⟨k, h⟩ := P a0 a1 w0 w1
  refine (citadellaw01_WordWidens.calls k a0 a1 true w h).mono ?_
  rintro e w' ⟨rfl, hd⟩
  exact ⟨rfl, hd⟩

/-! ### word_Branch: function 22 -/
def word_Branch.f (a0 : Int) (a1 : Int) (a2 : Int) : Option (Bool) := if a0 = 1 then (some (a1 == a2)) else (if a0 = 2 then (some (a1 != a2)) else (if a0 = 3 then (some (decide ((wrap64 (a1)) < (wrap64 (a2))))) else (if a0 = 4 then (some (decide ((wrap64 (a1)) ≥ (wrap64 (a2))))) else (if a0 = 5 then (some (decide (a1 < a2))) else (if a0 = 6 then (some (decide (a1 ≥ a2))) else (some false))))))
set_option maxHeartbeats 8000000 in
set_option maxRecDepth 100000 in
theorem word_Branch.calls (a0 : Int) (a1 : Int) (a2 : Int) (r : Bool) (w : World) (h : word_Branch.f a0 a1 a2 = some r) :
    Calls Try.prog 22 #[.int .i64 a0, .int .u64 a1, .int .u64 a2] w fun e w' => e = .returned (.bool r) ∧ Drawn0 w w' := by
  have H : (if a0 = 1 then (some (a1 == a2)) else (if a0 = 2 then (some (a1 != a2)) else (if a0 = 3 then (some (decide ((wrap64 (a1)) < (wrap64 (a2))))) else (if a0 = 4 then (some (decide ((wrap64 (a1)) ≥ (wrap64 (a2))))) else (if a0 = 5 then (some (decide (a1 < a2))) else (if a0 = 6 then (some (decide (a1 ≥ a2))) else (some false))))))) = some r := h
  clear h
  by_cases c4 : a0 = 1
  · rw [if_pos c4] at H
    have c4b0 : (a0 == 1) = true := beq_iff_eq.mpr c4
    have c4b1 : (a0 != 1) = false := bne_eq_false_iff_eq.mpr c4
    clear c4
    obtain rfl := Option.some.inj H
    go_enter Try.func22, Try.ntmps22
    go_wp2
    go_ret
    exact ⟨by first | rfl | (simp; done) | (simp [*]; done), by repeat (first | exact Drawn0.refl _ | apply Drawn0.step)⟩
  · rw [if_neg c4] at H
    have c4b0 : (a0 == 1) = false := beq_eq_false_iff_ne.mpr c4
    have c4b1 : (a0 != 1) = true := bne_iff_ne.mpr c4
    by_cases c5 : a0 = 2
    · rw [if_pos c5] at H
      have c5b0 : (a0 == 2) = true := beq_iff_eq.mpr c5
      have c5b1 : (a0 != 2) = false := bne_eq_false_iff_eq.mpr c5
      clear c5
      obtain rfl := Option.some.inj H
      go_enter Try.func22, Try.ntmps22
      go_wp2
      go_ret
      exact ⟨by first | rfl | (simp; done) | (simp [*]; done), by repeat (first | exact Drawn0.refl _ | apply Drawn0.step)⟩
    · rw [if_neg c5] at H
      have c5b0 : (a0 == 2) = false := beq_eq_false_iff_ne.mpr c5
      have c5b1 : (a0 != 2) = true := bne_iff_ne.mpr c5
      by_cases c6 : a0 = 3
      · rw [if_pos c6] at H
        have c6b0 : (a0 == 3) = true := beq_iff_eq.mpr c6
        have c6b1 : (a0 != 3) = false := bne_eq_false_iff_eq.mpr c6
        clear c6
        obtain rfl := Option.some.inj H
        go_enter Try.func22, Try.ntmps22
        go_wp2
        go_ret
        exact ⟨by first | rfl | (simp; done) | (simp [*]; done), by repeat (first | exact Drawn0.refl _ | apply Drawn0.step)⟩
      · rw [if_neg c6] at H
        have c6b0 : (a0 == 3) = false := beq_eq_false_iff_ne.mpr c6
        have c6b1 : (a0 != 3) = true := bne_iff_ne.mpr c6
        by_cases c7 : a0 = 4
        · rw [if_pos c7] at H
          have c7b0 : (a0 == 4) = true := beq_iff_eq.mpr c7
          have c7b1 : (a0 != 4) = false := bne_eq_false_iff_eq.mpr c7
          clear c7
          obtain rfl := Option.some.inj H
          go_enter Try.func22, Try.ntmps22
          go_wp2
          go_ret
          exact ⟨by first | rfl | (simp; done) | (simp [*]; done), by repeat (first | exact Drawn0.refl _ | apply Drawn0.step)⟩
        · rw [if_neg c7] at H
          have c7b0 : (a0 == 4) = false := beq_eq_false_iff_ne.mpr c7
          have c7b1 : (a0 != 4) = true := bne_iff_ne.mpr c7
          by_cases c8 : a0 = 5
          · rw [if_pos c8] at H
            have c8b0 : (a0 == 5) = true := beq_iff_eq.mpr c8
            have c8b1 : (a0 != 5) = false := bne_eq_false_iff_eq.mpr c8
            clear c8
            obtain rfl := Option.some.inj H
            go_enter Try.func22, Try.ntmps22
            go_wp2
            go_ret
            exact ⟨by first | rfl | (simp; done) | (simp [*]; done), by repeat (first | exact Drawn0.refl _ | apply Drawn0.step)⟩
          · rw [if_neg c8] at H
            have c8b0 : (a0 == 5) = false := beq_eq_false_iff_ne.mpr c8
            have c8b1 : (a0 != 5) = true := bne_iff_ne.mpr c8
            by_cases c9 : a0 = 6
            · rw [if_pos c9] at H
              have c9b0 : (a0 == 6) = true := beq_iff_eq.mpr c9
              have c9b1 : (a0 != 6) = false := bne_eq_false_iff_eq.mpr c9
              clear c9
              obtain rfl := Option.some.inj H
              go_enter Try.func22, Try.ntmps22
              go_wp2
              go_ret
              exact ⟨by first | rfl | (simp; done) | (simp [*]; done), by repeat (first | exact Drawn0.refl _ | apply Drawn0.step)⟩
            · rw [if_neg c9] at H
              have c9b0 : (a0 == 6) = false := beq_eq_false_iff_ne.mpr c9
              have c9b1 : (a0 != 6) = true := bne_iff_ne.mpr c9
              obtain rfl := Option.some.inj H
              go_enter Try.func22, Try.ntmps22
              go_wp2
              go_ret
              exact ⟨by first | rfl | (simp; done) | (simp [*]; done), by repeat (first | exact Drawn0.refl _ | apply Drawn0.step)⟩

/-! ### citadelref01_Branch: function 23 -/
def citadelref01_Branch.f (a0 : Int) (a1 : Int) (a2 : Int) : Option (Bool) := if a0 = 1 then (some (a1 == a2)) else (if a0 = 2 then (some (a1 != a2)) else (if a0 = 3 then ((citadelref01_less.f a1 a2).bind fun t294 => (some t294)) else (if a0 = 4 then ((citadelref01_less.f a1 a2).bind fun t295 => (some (!t295))) else (if a0 = 5 then (some (decide (a1 < a2))) else (if a0 = 6 then (some (decide (a1 ≥ a2))) else (some false))))))
set_option maxHeartbeats 8000000 in
set_option maxRecDepth 100000 in
theorem citadelref01_Branch.calls (a0 : Int) (a1 : Int) (a2 : Int) (r : Bool) (w : World) (h : citadelref01_Branch.f a0 a1 a2 = some r) :
    Calls Try.prog 23 #[.int .i64 a0, .int .u64 a1, .int .u64 a2] w fun e w' => e = .returned (.bool r) ∧ Drawn0 w w' := by
  have H : (if a0 = 1 then (some (a1 == a2)) else (if a0 = 2 then (some (a1 != a2)) else (if a0 = 3 then ((citadelref01_less.f a1 a2).bind fun t294 => (some t294)) else (if a0 = 4 then ((citadelref01_less.f a1 a2).bind fun t295 => (some (!t295))) else (if a0 = 5 then (some (decide (a1 < a2))) else (if a0 = 6 then (some (decide (a1 ≥ a2))) else (some false))))))) = some r := h
  clear h
  by_cases c4 : a0 = 1
  · rw [if_pos c4] at H
    have c4b0 : (a0 == 1) = true := beq_iff_eq.mpr c4
    have c4b1 : (a0 != 1) = false := bne_eq_false_iff_eq.mpr c4
    clear c4
    obtain rfl := Option.some.inj H
    go_enter Try.func23, Try.ntmps23
    go_wp2
    go_ret
    exact ⟨by first | rfl | (simp; done) | (simp [*]; done), by repeat (first | exact Drawn0.refl _ | apply Drawn0.step)⟩
  · rw [if_neg c4] at H
    have c4b0 : (a0 == 1) = false := beq_eq_false_iff_ne.mpr c4
    have c4b1 : (a0 != 1) = true := bne_iff_ne.mpr c4
    by_cases c5 : a0 = 2
    · rw [if_pos c5] at H
      have c5b0 : (a0 == 2) = true := beq_iff_eq.mpr c5
      have c5b1 : (a0 != 2) = false := bne_eq_false_iff_eq.mpr c5
      clear c5
      obtain rfl := Option.some.inj H
      go_enter Try.func23, Try.ntmps23
      go_wp2
      go_ret
      exact ⟨by first | rfl | (simp; done) | (simp [*]; done), by repeat (first | exact Drawn0.refl _ | apply Drawn0.step)⟩
    · rw [if_neg c5] at H
      have c5b0 : (a0 == 2) = false := beq_eq_false_iff_ne.mpr c5
      have c5b1 : (a0 != 2) = true := bne_iff_ne.mpr c5
      by_cases c6 : a0 = 3
      · rw [if_pos c6] at H
        have c6b0 : (a0 == 3) = true := beq_iff_eq.mpr c6
        have c6b1 : (a0 != 3) = false := bne_eq_false_iff_eq.mpr c6
        clear c6
        replace H := Option.bind_eq_some_iff.mp H
        obtain ⟨t294, A70, H⟩ := H
        replace H : (some t294) = some r := H
        have A7 := Aside0.mk A70
        clear A70
        obtain rfl := Option.some.inj H
        go_enter Try.func23, Try.ntmps23
        go_wp2_with (first | ((with_reducible refine gate_callee (f := 26) rfl ?_); refine goesL_ (some 22) rfl rfl Try.func26 (by kernel_rfl) rfl #[.int .u64 a1, .int .u64 a2] rfl (by (try simp only [List.map_toArray, List.map_cons, List.map_nil]); first | done | rfl | (simp only [List.length_drop, List.length_take]; rfl)) ?_; (with_reducible refine (citadelref01_less.calls a1 a2 t294 _ A7.out).mono ?_); rintro e w' ⟨rfl, ⟨nd, rfl⟩⟩; refine ⟨_, rfl, ?_⟩))
        go_ret
        exact ⟨by first | rfl | (simp; done) | (simp [*]; done), by repeat (first | exact Drawn0.refl _ | apply Drawn0.step)⟩
      · rw [if_neg c6] at H
        have c6b0 : (a0 == 3) = false := beq_eq_false_iff_ne.mpr c6
        have c6b1 : (a0 != 3) = true := bne_iff_ne.mpr c6
        by_cases c8 : a0 = 4
        · rw [if_pos c8] at H
          have c8b0 : (a0 == 4) = true := beq_iff_eq.mpr c8
          have c8b1 : (a0 != 4) = false := bne_eq_false_iff_eq.mpr c8
          clear c8
          replace H := Option.bind_eq_some_iff.mp H
          obtain ⟨t295, A90, H⟩ := H
          replace H : (some (!t295)) = some r := H
          have A9 := Aside0.mk A90
          clear A90
          obtain rfl := Option.some.inj H
          go_enter Try.func23, Try.ntmps23
          go_wp2_with (first | ((with_reducible refine gate_callee (f := 26) rfl ?_); refine goesL_ (some 27) rfl rfl Try.func26 (by kernel_rfl) rfl #[.int .u64 a1, .int .u64 a2] rfl (by (try simp only [List.map_toArray, List.map_cons, List.map_nil]); first | done | rfl | (simp only [List.length_drop, List.length_take]; rfl)) ?_; (with_reducible refine (citadelref01_less.calls a1 a2 t295 _ A9.out).mono ?_); rintro e w' ⟨rfl, ⟨nd, rfl⟩⟩; refine ⟨_, rfl, ?_⟩))
          go_ret
          exact ⟨by first | rfl | (simp; done) | (simp [*]; done), by repeat (first | exact Drawn0.refl _ | apply Drawn0.step)⟩
        · rw [if_neg c8] at H
          have c8b0 : (a0 == 4) = false := beq_eq_false_iff_ne.mpr c8
          have c8b1 : (a0 != 4) = true := bne_iff_ne.mpr c8
          by_cases c10 : a0 = 5
          · rw [if_pos c10] at H
            have c10b0 : (a0 == 5) = true := beq_iff_eq.mpr c10
            have c10b1 : (a0 != 5) = false := bne_eq_false_iff_eq.mpr c10
            clear c10
            obtain rfl := Option.some.inj H
            go_enter Try.func23, Try.ntmps23
            go_wp2
            go_ret
            exact ⟨by first | rfl | (simp; done) | (simp [*]; done), by repeat (first | exact Drawn0.refl _ | apply Drawn0.step)⟩
          · rw [if_neg c10] at H
            have c10b0 : (a0 == 5) = false := beq_eq_false_iff_ne.mpr c10
            have c10b1 : (a0 != 5) = true := bne_iff_ne.mpr c10
            by_cases c11 : a0 = 6
            · rw [if_pos c11] at H
              have c11b0 : (a0 == 6) = true := beq_iff_eq.mpr c11
              have c11b1 : (a0 != 6) = false := bne_eq_false_iff_eq.mpr c11
              clear c11
              obtain rfl := Option.some.inj H
              go_enter Try.func23, Try.ntmps23
              go_wp2
              go_ret
              exact ⟨by first | rfl | (simp; done) | (simp [*]; done), by repeat (first | exact Drawn0.refl _ | apply Drawn0.step)⟩
            · rw [if_neg c11] at H
              have c11b0 : (a0 == 6) = false := beq_eq_false_iff_ne.mpr c11
              have c11b1 : (a0 != 6) = true := bne_iff_ne.mpr c11
              obtain rfl := Option.some.inj H
              go_enter Try.func23, Try.ntmps23
              go_wp2
              go_ret
              exact ⟨by first | rfl | (simp; done) | (simp [*]; done), by repeat (first | exact Drawn0.refl _ | apply Drawn0.step)⟩

/-! ### citadellaw01_WordBranches: function 12 -/
def citadellaw01_WordBranches.l0 : Nat → Int → Int → Int → Option (Bool)
  | 0, _, _, _ => none
  | k + 1, x0, x1, x5 => if x5 ≤ 8 then ((word_Branch.f x5 x0 x1).bind fun t297 => ((citadelref01_Branch.f x5 x0 x1).bind fun t298 => (if (t297 != t298) = true then (some false) else (citadellaw01_WordBranches.l0 k x0 x1 (wrap64 (x5 + 1)))))) else ((citadellaw01_awake.f).bind fun t296 => (some t296))
def citadellaw01_WordBranches.f (k : Nat) (a0 : Int) (a1 : Int) : Option (Bool) := citadellaw01_WordBranches.l0 k a0 a1 (-1)
theorem citadellaw01_WordBranches.mono_l : ∀ k, (∀ y0 y1 y2, LeO (citadellaw01_WordBranches.l0 k y0 y1 y2) (citadellaw01_WordBranches.l0 (k + 1) y0 y1 y2))
  | 0 => fun _ _ _ r h => by simp [citadellaw01_WordBranches.l0] at h
  | k + 1 => by
    have ih0 := citadellaw01_WordBranches.mono_l k
    · intro y0 y1 y2
      unfold citadellaw01_WordBranches.l0
      repeat' first
      | (with_reducible exact ih0 _ _ _)
      | (with_reducible exact LeO.refl _)
      | (with_reducible exact LeO.none _)
      | (with_reducible refine LeO.ite ?_ ?_)
      | (with_reducible refine LeO.bind ?_ (fun _ => ?_))
      | exact ih0 _ _ _
      | exact LeO.none _
      | refine LeO.ite ?_ ?_
      | refine LeO.bind ?_ (fun _ => ?_)
theorem citadellaw01_WordBranches.mono : ∀ a0 a1 k, LeO (citadellaw01_WordBranches.f k a0 a1) (citadellaw01_WordBranches.f (k + 1) a0 a1) := by
  intro a0 a1 k
  have ih0 := citadellaw01_WordBranches.mono_l k
  unfold citadellaw01_WordBranches.f
  repeat' first
      | (with_reducible exact ih0 _ _ _)
      | (with_reducible exact LeO.refl _)
      | (with_reducible exact LeO.none _)
      | (with_reducible refine LeO.ite ?_ ?_)
      | (with_reducible refine LeO.bind ?_ (fun _ => ?_))
      | exact ih0 _ _ _
      | exact LeO.none _
      | refine LeO.ite ?_ ?_
      | refine LeO.bind ?_ (fun _ => ?_)
set_option maxHeartbeats 8000000 in
set_option maxRecDepth 100000 in
theorem citadellaw01_WordBranches.calls (k : Nat) (a0 : Int) (a1 : Int) (r : Bool) (w : World) (h : citadellaw01_WordBranches.f k a0 a1 = some r) :
    Calls Try.prog 12 #[.int .u64 a0, .int .u64 a1] w fun e w' => e = .returned (.bool r) ∧ Below w.heap.size w w' := by
  have HB := Aside0.mk (Below.refl w.heap.size w)
  have H : (citadellaw01_WordBranches.l0 k a0 a1 (-1)) = some r := h
  clear h
  have H' := Aside0.mk H
  clear H
  go_enter Try.func12, Try.ntmps12
  go_wp2
  go_loopg [5] k (fun kq v5 w' => ∃ (x5_1 : Int), v5 = .int .i64 x5_1 ∧ Aside0 (citadellaw01_WordBranches.l0 kq a0 a1 x5_1 = some r) ∧ Aside0 (kq ≤ k) ∧ Aside0 (Below w.heap.size w w'))
  case atStart => exact ⟨((-1)), (by first | rfl | (simp; done) | (simp [*]; done)), H', ⟨Nat.le_refl _⟩, ⟨by repeat (first | (with_reducible first | exact HB.out | apply below_alloc | apply pw_below_drewN | apply below_drew1) | exact HB.out)⟩⟩
  case round =>
    clear H'
    try clear c1
    try clear p2
    obtain ⟨x5_1, rfl, HA, HK1, HB⟩ := hrel
    cases gk with
    | zero => exact absurd HA.out (by simp [citadellaw01_WordBranches.l0])
    | succ k1 =>
      have H := HA.out
      clear HA
      simp only [citadellaw01_WordBranches.l0] at H
      by_cases c3 : x5_1 ≤ 8
      · rw [if_pos c3] at H
        have c3b0 : decide (x5_1 ≤ 8) = true := decide_eq_true c3
        clear c3
        replace H := Option.bind_eq_some_iff.mp H
        obtain ⟨t297, A40, H⟩ := H
        replace H : ((citadelref01_Branch.f x5_1 a0 a1).bind fun t298 => (if (t297 != t298) = true then (some false) else (citadellaw01_WordBranches.l0 k1 a0 a1 (wrap64 (x5_1 + 1))))) = some r := H
        have A4 := Aside0.mk A40
        clear A40
        replace H := Option.bind_eq_some_iff.mp H
        obtain ⟨t298, A50, H⟩ := H
        replace H : (if (t297 != t298) = true then (some false) else (citadellaw01_WordBranches.l0 k1 a0 a1 (wrap64 (x5_1 + 1)))) = some r := H
        have A5 := Aside0.mk A50
        clear A50
        by_cases c6 : (t297 != t298) = true
        · rw [if_pos c6] at H
          have c6b0 : (t297 != t298) = true := c6
          (try (have c6b1 : decide (t297 = t298) = false := by simpa using c6))
          (try (have c6b2 : (t297 == t298) = false := by simpa using c6))
          (try (have c6b3 : ¬ (t297 = t298) := by simpa using c6))
          clear c6
          obtain rfl := Option.some.inj H
          go_wp2_with (first | ((with_reducible refine gate_callee (f := 22) rfl ?_); refine goesL_ (some 13) rfl rfl Try.func22 (by kernel_rfl) rfl #[.int .i64 x5_1, .int .u64 a0, .int .u64 a1] rfl (by (try simp only [List.map_toArray, List.map_cons, List.map_nil]); first | done | rfl | (simp only [List.length_drop, List.length_take]; rfl)) ?_; (with_reducible refine (word_Branch.calls x5_1 a0 a1 t297 _ A4.out).mono ?_); rintro e w' ⟨rfl, ⟨nd, rfl⟩⟩; refine ⟨_, rfl, ?_⟩) | ((with_reducible refine gate_callee (f := 23) rfl ?_); refine goesL_ (some 17) rfl rfl Try.func23 (by kernel_rfl) rfl #[.int .i64 x5_1, .int .u64 a0, .int .u64 a1] rfl (by (try simp only [List.map_toArray, List.map_cons, List.map_nil]); first | done | rfl | (simp only [List.length_drop, List.length_take]; rfl)) ?_; (with_reducible refine (citadelref01_Branch.calls x5_1 a0 a1 t298 _ A5.out).mono ?_); rintro e w' ⟨rfl, ⟨nd, rfl⟩⟩; refine ⟨_, rfl, ?_⟩))
          go_ret
          exact ⟨by first | rfl | (simp [errW_none, errW_some] <;> rfl) | (simp [*, errW_none, errW_some] <;> rfl), by repeat (first | (with_reducible first | exact HB.out | apply below_alloc | apply pw_below_drewN | apply below_drew1) | exact HB.out)⟩
        · rw [if_neg c6] at H
          have c6b0 : (t297 != t298) = false := by simpa using c6
          (try (have c6b1 : decide (t297 = t298) = true := by simpa using c6))
          (try (have c6b2 : (t297 == t298) = true := by simpa using c6))
          clear c6
          have H' := Aside0.mk H
          clear H
          go_wp2_with (first | ((with_reducible refine gate_callee (f := 22) rfl ?_); refine goesL_ (some 13) rfl rfl Try.func22 (by kernel_rfl) rfl #[.int .i64 x5_1, .int .u64 a0, .int .u64 a1] rfl (by (try simp only [List.map_toArray, List.map_cons, List.map_nil]); first | done | rfl | (simp only [List.length_drop, List.length_take]; rfl)) ?_; (with_reducible refine (word_Branch.calls x5_1 a0 a1 t297 _ A4.out).mono ?_); rintro e w' ⟨rfl, ⟨nd, rfl⟩⟩; refine ⟨_, rfl, ?_⟩) | ((with_reducible refine gate_callee (f := 23) rfl ?_); refine goesL_ (some 17) rfl rfl Try.func23 (by kernel_rfl) rfl #[.int .i64 x5_1, .int .u64 a0, .int .u64 a1] rfl (by (try simp only [List.map_toArray, List.map_cons, List.map_nil]); first | done | rfl | (simp only [List.length_drop, List.length_take]; rfl)) ?_; (with_reducible refine (citadelref01_Branch.calls x5_1 a0 a1 t298 _ A5.out).mono ?_); rintro e w' ⟨rfl, ⟨nd, rfl⟩⟩; refine ⟨_, rfl, ?_⟩))
          go_roundg k1
          case measure => have := HK1.out; omega
          case rel => exact ⟨(wrap64 (x5_1 + 1)), (by first | rfl | (simp; done) | (simp [*]; done)), H', ⟨by have := HK1.out; omega⟩, ⟨by repeat (first | (with_reducible first | exact HB.out | apply below_alloc | apply pw_below_drewN | apply below_drew1) | exact HB.out)⟩⟩
      · rw [if_neg c3] at H
        have c3b0 : decide (x5_1 ≤ 8) = false := decide_eq_false c3
        clear c3
        replace H := Option.bind_eq_some_iff.mp H
        obtain ⟨t296, A70, H⟩ := H
        replace H : (some t296) = some r := H
        have A7 := Aside0.mk A70
        clear A70
        obtain rfl := Option.some.inj H
        go_wp2_with (first | ((with_reducible refine gate_callee (f := 17) rfl ?_); refine goesL_ (some 19) rfl rfl Try.func17 (by kernel_rfl) rfl #[] rfl (by (try simp only [List.map_toArray, List.map_cons, List.map_nil]); first | done | rfl | (simp only [List.length_drop, List.length_take]; rfl)) ?_; (with_reducible refine (citadellaw01_awake.calls  t296 _ A7.out).mono ?_); rintro e w8 ⟨rfl, hb⟩; refine ⟨_, rfl, ?_⟩; have n0_ := Aside0.mk (below_step (by repeat (first | (with_reducible first | exact HB.out | apply below_alloc | apply pw_below_drewN | apply below_drew1) | exact HB.out)) hb); clear HB; have HB := n0_; clear n0_; (try clear hb); (try clear hb2); (try clear hk); (try clear hi)))
        go_ret
        exact ⟨by first | rfl | (simp [errW_none, errW_some] <;> rfl) | (simp [*, errW_none, errW_some] <;> rfl), by repeat (first | (with_reducible first | exact HB.out | apply below_alloc | apply pw_below_drewN | apply below_drew1) | exact HB.out)⟩

/-- THE ONE PURE STATEMENT of citadellaw01_WordBranches: yours. -/
def citadellaw01_WordBranches.Pure : Prop := ∀ (a0 : Int) (a1 : Int), (Lit.int .u64 a0).wf = true → (Lit.int .u64 a1).wf = true → ∃ k, citadellaw01_WordBranches.f k a0 a1 = some true
theorem citadellaw01_WordBranches.walk (P : citadellaw01_WordBranches.Pure) (a0 : Int) (a1 : Int) (w : World) (w0 : (Lit.int .u64 a0).wf = true) (w1 : (Lit.int .u64 a1).wf = true) :
    Calls Try.prog 12 #[.int .u64 a0, .int .u64 a1] w fun e w' => e = .returned (.bool true) ∧ Below w.heap.size w w' := by
  obtain ⟨k, h⟩ := P a0 a1 w0 w1
  refine (citadellaw01_WordBranches.calls k a0 a1 true w h).mono ?_
  rintro e w' ⟨rfl, hd⟩
  exact ⟨rfl, hd⟩

end Go.Proofs.Ytmfbijfghonnjaa.PA
