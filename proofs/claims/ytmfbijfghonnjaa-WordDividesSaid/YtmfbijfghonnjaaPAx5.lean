/- What the program's functions answer, call by call, and the row of a law; no conditions beyond each theorem's own. Written by a program of this repo (xprint.py, over the kit's printer, with contracts of the session's own). Lean checks it. -/
import Derived.Test.YtmfbijfghonnjaaPAx0
import Derived.Test.YtmfbijfghonnjaaPAx2
import Derived.Test.YtmfbijfghonnjaaPAx3
import Derived.Test.YtmfbijfghonnjaaPAx4
namespace Go.Proofs.Ytmfbijfghonnjaa.PA
open Go.RowKit Go.Proofs.YtmfbijfghonnjaaW.PrintWords Go.Proofs.YtmfbijfghonnjaaW.PrintLast Go.Proofs.YtmfbijfghonnjaaW.PrintMore
attribute [local go_sem] max2_int min2_int max_two min_two max_three min_three max_four min_four   -- for this text's walks alone
set_option linter.unusedVariables false
set_option linter.unusedSimpArgs false

/-! ### citadellaw01_WordAlus: function 3 -/
def citadellaw01_WordAlus.f (k : Nat) (a0 : Int) (a1 : Int) (a2 : Int) : Option (Bool) := (word_Alu.f a0 a1 a2).bind fun t214 => ((citadelref01_Alu.f k a0 a1 a2).bind fun t215 => (if t214 = t215 then ((citadellaw01_awake.f).bind fun t216 => (some t216)) else (some false)))
theorem citadellaw01_WordAlus.mono : ∀ a0 a1 a2 k, LeO (citadellaw01_WordAlus.f k a0 a1 a2) (citadellaw01_WordAlus.f (k + 1) a0 a1 a2) := by
  intro a0 a1 a2 k
  unfold citadellaw01_WordAlus.f
  repeat' first
      | (with_reducible exact citadelref01_Alu.mono _ _ _ _)
      | (with_reducible exact LeO.refl _)
      | (with_reducible exact LeO.none _)
      | (with_reducible refine LeO.ite ?_ ?_)
      | (with_reducible refine LeO.bind ?_ (fun _ => ?_))
      | exact citadelref01_Alu.mono _ _ _ _
      | exact LeO.none _
      | refine LeO.ite ?_ ?_
      | refine LeO.bind ?_ (fun _ => ?_)
set_option maxHeartbeats 8000000 in
set_option maxRecDepth 100000 in
theorem citadellaw01_WordAlus.calls (k : Nat) (a0 : Int) (a1 : Int) (a2 : Int) (r : Bool) (w : World) (h : citadellaw01_WordAlus.f k a0 a1 a2 = some r) :
    Calls Try.prog 3 #[.int .i64 a0, .int .u64 a1, .int .u64 a2] w fun e w' => e = .returned (.bool r) ∧ Below w.heap.size w w' := by
  have HB := Aside0.mk (Below.refl w.heap.size w)
  have H : ((word_Alu.f a0 a1 a2).bind fun t214 => ((citadelref01_Alu.f k a0 a1 a2).bind fun t215 => (if t214 = t215 then ((citadellaw01_awake.f).bind fun t216 => (some t216)) else (some false)))) = some r := h
  clear h
  replace H := Option.bind_eq_some_iff.mp H
  obtain ⟨t214, A40, H⟩ := H
  replace H : ((citadelref01_Alu.f k a0 a1 a2).bind fun t215 => (if t214 = t215 then ((citadellaw01_awake.f).bind fun t216 => (some t216)) else (some false))) = some r := H
  have A4 := Aside0.mk A40
  clear A40
  replace H := Option.bind_eq_some_iff.mp H
  obtain ⟨t215, A50, H⟩ := H
  replace H : (if t214 = t215 then ((citadellaw01_awake.f).bind fun t216 => (some t216)) else (some false)) = some r := H
  have A5 := Aside0.mk A50
  clear A50
  by_cases c6 : t214 = t215
  · rw [if_pos c6] at H
    have c6b0 : (t214 == t215) = true := beq_iff_eq.mpr c6
    have c6b1 : (t214 != t215) = false := bne_eq_false_iff_eq.mpr c6
    clear c6
    replace H := Option.bind_eq_some_iff.mp H
    obtain ⟨t216, A70, H⟩ := H
    replace H : (some t216) = some r := H
    have A7 := Aside0.mk A70
    clear A70
    obtain rfl := Option.some.inj H
    go_enter Try.func3, Try.ntmps3
    go_wp2_with (first | ((with_reducible refine gate_callee (f := 15) rfl ?_); refine goesL_ (some 10) rfl rfl Try.func15 (by kernel_rfl) rfl #[.int .i64 a0, .int .u64 a1, .int .u64 a2] rfl (by (try simp only [List.map_toArray, List.map_cons, List.map_nil]); first | done | rfl | (simp only [List.length_drop, List.length_take]; rfl)) ?_; (with_reducible refine (word_Alu.calls a0 a1 a2 t214 _ A4.out).mono ?_); rintro e w8 ⟨rfl, hb⟩; refine ⟨_, rfl, ?_⟩; have n0_ := Aside0.mk (below_step (by repeat (first | (with_reducible first | exact HB.out | apply below_alloc | apply pw_below_drewN | apply below_drew1) | exact HB.out)) hb); clear HB; have HB := n0_; clear n0_; (try clear hb); (try clear hb2); (try clear hk); (try clear hi)) | ((with_reducible refine gate_callee (f := 16) rfl ?_); refine goesL_ (some 14) rfl rfl Try.func16 (by kernel_rfl) rfl #[.int .i64 a0, .int .u64 a1, .int .u64 a2] rfl (by (try simp only [List.map_toArray, List.map_cons, List.map_nil]); first | done | rfl | (simp only [List.length_drop, List.length_take]; rfl)) ?_; (with_reducible refine (citadelref01_Alu.calls k a0 a1 a2 t215 _ A5.out).mono ?_); rintro e w' ⟨rfl, ⟨nd, rfl⟩⟩; refine ⟨_, rfl, ?_⟩) | (go_at_call 17; (with_reducible refine (citadellaw01_awake.calls  t216 _ A7.out).mono ?_); rintro e w9 ⟨rfl, hb⟩; have n0_ := Aside0.mk (below_step (by repeat (first | (with_reducible first | exact HB.out | apply below_alloc | apply pw_below_drewN | apply below_drew1) | exact HB.out)) hb); clear HB; have HB := n0_; clear n0_; (try clear hb); (try clear hb2); (try clear hk); (try clear hi)))
    go_ret
    exact ⟨by first | rfl | (simp [errW_none, errW_some] <;> rfl) | (simp [*, errW_none, errW_some] <;> rfl), by repeat (first | (with_reducible first | exact HB.out | apply below_alloc | apply pw_below_drewN | apply below_drew1) | exact HB.out)⟩
  · rw [if_neg c6] at H
    have c6b0 : (t214 == t215) = false := beq_eq_false_iff_ne.mpr c6
    have c6b1 : (t214 != t215) = true := bne_iff_ne.mpr c6
    obtain rfl := Option.some.inj H
    go_enter Try.func3, Try.ntmps3
    go_wp2_with (first | ((with_reducible refine gate_callee (f := 15) rfl ?_); refine goesL_ (some 10) rfl rfl Try.func15 (by kernel_rfl) rfl #[.int .i64 a0, .int .u64 a1, .int .u64 a2] rfl (by (try simp only [List.map_toArray, List.map_cons, List.map_nil]); first | done | rfl | (simp only [List.length_drop, List.length_take]; rfl)) ?_; (with_reducible refine (word_Alu.calls a0 a1 a2 t214 _ A4.out).mono ?_); rintro e w10 ⟨rfl, hb⟩; refine ⟨_, rfl, ?_⟩; have n0_ := Aside0.mk (below_step (by repeat (first | (with_reducible first | exact HB.out | apply below_alloc | apply pw_below_drewN | apply below_drew1) | exact HB.out)) hb); clear HB; have HB := n0_; clear n0_; (try clear hb); (try clear hb2); (try clear hk); (try clear hi)) | ((with_reducible refine gate_callee (f := 16) rfl ?_); refine goesL_ (some 14) rfl rfl Try.func16 (by kernel_rfl) rfl #[.int .i64 a0, .int .u64 a1, .int .u64 a2] rfl (by (try simp only [List.map_toArray, List.map_cons, List.map_nil]); first | done | rfl | (simp only [List.length_drop, List.length_take]; rfl)) ?_; (with_reducible refine (citadelref01_Alu.calls k a0 a1 a2 t215 _ A5.out).mono ?_); rintro e w' ⟨rfl, ⟨nd, rfl⟩⟩; refine ⟨_, rfl, ?_⟩))
    go_ret
    exact ⟨by first | rfl | (simp [errW_none, errW_some] <;> rfl) | (simp [*, errW_none, errW_some] <;> rfl), by repeat (first | (with_reducible first | exact HB.out | apply below_alloc | apply pw_below_drewN | apply below_drew1) | exact HB.out)⟩

/-- THE ONE PURE STATEMENT of citadellaw01_WordAlus: yours. -/
def citadellaw01_WordAlus.Pure : Prop := ∀ (a0 : Int) (a1 : Int) (a2 : Int), (Lit.int .i64 a0).wf = true → (Lit.int .u64 a1).wf = true → (Lit.int .u64 a2).wf = true → ∃ k, citadellaw01_WordAlus.f k a0 a1 a2 = some true
theorem citadellaw01_WordAlus.walk (P : citadellaw01_WordAlus.Pure) (a0 : Int) (a1 : Int) (a2 : Int) (w : World) (w0 : (Lit.int .i64 a0).wf = true) (w1 : (Lit.int .u64 a1).wf = true) (w2 : (Lit.int .u64 a2).wf = true) :
    Calls Try.prog 3 #[.int .i64 a0, .int .u64 a1, .int .u64 a2] w fun e w' => e = .returned (.bool true) ∧ Below w.heap.size w w' := by
  obtain ⟨k, h⟩ := P a0 a1 a2 w0 w1 w2
  refine (citadellaw01_WordAlus.calls k a0 a1 a2 true w h).mono ?_
  rintro e w' ⟨rfl, hd⟩
  exact ⟨rfl, hd⟩

/-! ### citadellaw01_WordAll: function 4 -/
def citadellaw01_WordAll.l0 : Nat → Int → Int → Int → Option (Bool)
  | 0, _, _, _ => none
  | k + 1, x0, x1, x5 => if x5 ≤ 29 then ((word_Alu.f x5 x0 x1).bind fun t218 => ((citadelref01_Alu.f k x5 x0 x1).bind fun t219 => (if t218 = t219 then (citadellaw01_WordAll.l0 k x0 x1 (wrap64 (x5 + 1))) else (some false)))) else ((citadellaw01_awake.f).bind fun t217 => (some t217))
def citadellaw01_WordAll.f (k : Nat) (a0 : Int) (a1 : Int) : Option (Bool) := citadellaw01_WordAll.l0 k a0 a1 0
theorem citadellaw01_WordAll.mono_l : ∀ k, (∀ y0 y1 y2, LeO (citadellaw01_WordAll.l0 k y0 y1 y2) (citadellaw01_WordAll.l0 (k + 1) y0 y1 y2))
  | 0 => fun _ _ _ r h => by simp [citadellaw01_WordAll.l0] at h
  | k + 1 => by
    have ih0 := citadellaw01_WordAll.mono_l k
    · intro y0 y1 y2
      unfold citadellaw01_WordAll.l0
      repeat' first
      | (with_reducible exact ih0 _ _ _)
      | (with_reducible exact citadelref01_Alu.mono _ _ _ _)
      | (with_reducible exact LeO.refl _)
      | (with_reducible exact LeO.none _)
      | (with_reducible refine LeO.ite ?_ ?_)
      | (with_reducible refine LeO.bind ?_ (fun _ => ?_))
      | exact ih0 _ _ _
      | exact citadelref01_Alu.mono _ _ _ _
      | exact LeO.none _
      | refine LeO.ite ?_ ?_
      | refine LeO.bind ?_ (fun _ => ?_)
theorem citadellaw01_WordAll.mono : ∀ a0 a1 k, LeO (citadellaw01_WordAll.f k a0 a1) (citadellaw01_WordAll.f (k + 1) a0 a1) := by
  intro a0 a1 k
  have ih0 := citadellaw01_WordAll.mono_l k
  unfold citadellaw01_WordAll.f
  repeat' first
      | (with_reducible exact ih0 _ _ _)
      | (with_reducible exact citadelref01_Alu.mono _ _ _ _)
      | (with_reducible exact LeO.refl _)
      | (with_reducible exact LeO.none _)
      | (with_reducible refine LeO.ite ?_ ?_)
      | (with_reducible refine LeO.bind ?_ (fun _ => ?_))
      | exact ih0 _ _ _
      | exact citadelref01_Alu.mono _ _ _ _
      | exact LeO.none _
      | refine LeO.ite ?_ ?_
      | refine LeO.bind ?_ (fun _ => ?_)
set_option maxHeartbeats 8000000 in
set_option maxRecDepth 100000 in
theorem citadellaw01_WordAll.calls (k : Nat) (a0 : Int) (a1 : Int) (r : Bool) (w : World) (h : citadellaw01_WordAll.f k a0 a1 = some r) :
    Calls Try.prog 4 #[.int .u64 a0, .int .u64 a1] w fun e w' => e = .returned (.bool r) ∧ Below w.heap.size w w' := by
  have HB := Aside0.mk (Below.refl w.heap.size w)
  have H : (citadellaw01_WordAll.l0 k a0 a1 0) = some r := h
  clear h
  have H' := Aside0.mk H
  clear H
  go_enter Try.func4, Try.ntmps4
  go_wp2
  go_loopg [5] k (fun kq v5 w' => ∃ (x5_1 : Int), v5 = .int .i64 x5_1 ∧ Aside0 (citadellaw01_WordAll.l0 kq a0 a1 x5_1 = some r) ∧ Aside0 (kq ≤ k) ∧ Aside0 (Below w.heap.size w w'))
  case atStart => exact ⟨(0), (by first | rfl | (simp; done) | (simp [*]; done)), H', ⟨Nat.le_refl _⟩, ⟨by repeat (first | (with_reducible first | exact HB.out | apply below_alloc | apply pw_below_drewN | apply below_drew1) | exact HB.out)⟩⟩
  case round =>
    clear H'
    try clear p2
    obtain ⟨x5_1, rfl, HA, HK1, HB⟩ := hrel
    cases gk with
    | zero => exact absurd HA.out (by simp [citadellaw01_WordAll.l0])
    | succ k1 =>
      have H := HA.out
      clear HA
      simp only [citadellaw01_WordAll.l0] at H
      by_cases c3 : x5_1 ≤ 29
      · rw [if_pos c3] at H
        have c3b0 : decide (x5_1 ≤ 29) = true := decide_eq_true c3
        clear c3
        replace H := Option.bind_eq_some_iff.mp H
        obtain ⟨t218, A40, H⟩ := H
        replace H : ((citadelref01_Alu.f k1 x5_1 a0 a1).bind fun t219 => (if t218 = t219 then (citadellaw01_WordAll.l0 k1 a0 a1 (wrap64 (x5_1 + 1))) else (some false))) = some r := H
        have A4 := Aside0.mk A40
        clear A40
        replace H := Option.bind_eq_some_iff.mp H
        obtain ⟨t219, A50, H⟩ := H
        replace H : (if t218 = t219 then (citadellaw01_WordAll.l0 k1 a0 a1 (wrap64 (x5_1 + 1))) else (some false)) = some r := H
        have A5 := Aside0.mk A50
        clear A50
        by_cases c6 : t218 = t219
        · rw [if_pos c6] at H
          have c6b0 : (t218 == t219) = true := beq_iff_eq.mpr c6
          have c6b1 : (t218 != t219) = false := bne_eq_false_iff_eq.mpr c6
          clear c6
          have H' := Aside0.mk H
          clear H
          go_wp2_with (first | ((with_reducible refine gate_callee (f := 15) rfl ?_); refine goesL_ (some 13) rfl rfl Try.func15 (by kernel_rfl) rfl #[.int .i64 x5_1, .int .u64 a0, .int .u64 a1] rfl (by (try simp only [List.map_toArray, List.map_cons, List.map_nil]); first | done | rfl | (simp only [List.length_drop, List.length_take]; rfl)) ?_; (with_reducible refine (word_Alu.calls x5_1 a0 a1 t218 _ A4.out).mono ?_); rintro e w7 ⟨rfl, hb⟩; refine ⟨_, rfl, ?_⟩; have n0_ := Aside0.mk (below_step (by repeat (first | (with_reducible first | exact HB.out | apply below_alloc | apply pw_below_drewN | apply below_drew1) | exact HB.out)) hb); clear HB; have HB := n0_; clear n0_; (try clear hb); (try clear hb2); (try clear hk); (try clear hi)) | ((with_reducible refine gate_callee (f := 16) rfl ?_); refine goesL_ (some 17) rfl rfl Try.func16 (by kernel_rfl) rfl #[.int .i64 x5_1, .int .u64 a0, .int .u64 a1] rfl (by (try simp only [List.map_toArray, List.map_cons, List.map_nil]); first | done | rfl | (simp only [List.length_drop, List.length_take]; rfl)) ?_; (with_reducible refine (citadelref01_Alu.calls k1 x5_1 a0 a1 t219 _ A5.out).mono ?_); rintro e w' ⟨rfl, ⟨nd, rfl⟩⟩; refine ⟨_, rfl, ?_⟩))
          go_roundg k1
          case measure => have := HK1.out; omega
          case rel => exact ⟨(wrap64 (x5_1 + 1)), (by first | rfl | (simp; done) | (simp [*]; done)), H', ⟨by have := HK1.out; omega⟩, ⟨by repeat (first | (with_reducible first | exact HB.out | apply below_alloc | apply pw_below_drewN | apply below_drew1) | exact HB.out)⟩⟩
        · rw [if_neg c6] at H
          have c6b0 : (t218 == t219) = false := beq_eq_false_iff_ne.mpr c6
          have c6b1 : (t218 != t219) = true := bne_iff_ne.mpr c6
          obtain rfl := Option.some.inj H
          go_wp2_with (first | ((with_reducible refine gate_callee (f := 15) rfl ?_); refine goesL_ (some 13) rfl rfl Try.func15 (by kernel_rfl) rfl #[.int .i64 x5_1, .int .u64 a0, .int .u64 a1] rfl (by (try simp only [List.map_toArray, List.map_cons, List.map_nil]); first | done | rfl | (simp only [List.length_drop, List.length_take]; rfl)) ?_; (with_reducible refine (word_Alu.calls x5_1 a0 a1 t218 _ A4.out).mono ?_); rintro e w8 ⟨rfl, hb⟩; refine ⟨_, rfl, ?_⟩; have n0_ := Aside0.mk (below_step (by repeat (first | (with_reducible first | exact HB.out | apply below_alloc | apply pw_below_drewN | apply below_drew1) | exact HB.out)) hb); clear HB; have HB := n0_; clear n0_; (try clear hb); (try clear hb2); (try clear hk); (try clear hi)) | ((with_reducible refine gate_callee (f := 16) rfl ?_); refine goesL_ (some 17) rfl rfl Try.func16 (by kernel_rfl) rfl #[.int .i64 x5_1, .int .u64 a0, .int .u64 a1] rfl (by (try simp only [List.map_toArray, List.map_cons, List.map_nil]); first | done | rfl | (simp only [List.length_drop, List.length_take]; rfl)) ?_; (with_reducible refine (citadelref01_Alu.calls k1 x5_1 a0 a1 t219 _ A5.out).mono ?_); rintro e w' ⟨rfl, ⟨nd, rfl⟩⟩; refine ⟨_, rfl, ?_⟩))
          go_ret
          exact ⟨by first | rfl | (simp [errW_none, errW_some] <;> rfl) | (simp [*, errW_none, errW_some] <;> rfl), by repeat (first | (with_reducible first | exact HB.out | apply below_alloc | apply pw_below_drewN | apply below_drew1) | exact HB.out)⟩
      · rw [if_neg c3] at H
        have c3b0 : decide (x5_1 ≤ 29) = false := decide_eq_false c3
        clear c3
        replace H := Option.bind_eq_some_iff.mp H
        obtain ⟨t217, A90, H⟩ := H
        replace H : (some t217) = some r := H
        have A9 := Aside0.mk A90
        clear A90
        obtain rfl := Option.some.inj H
        go_wp2_with (first | ((with_reducible refine gate_callee (f := 17) rfl ?_); refine goesL_ (some 19) rfl rfl Try.func17 (by kernel_rfl) rfl #[] rfl (by (try simp only [List.map_toArray, List.map_cons, List.map_nil]); first | done | rfl | (simp only [List.length_drop, List.length_take]; rfl)) ?_; (with_reducible refine (citadellaw01_awake.calls  t217 _ A9.out).mono ?_); rintro e w10 ⟨rfl, hb⟩; refine ⟨_, rfl, ?_⟩; have n0_ := Aside0.mk (below_step (by repeat (first | (with_reducible first | exact HB.out | apply below_alloc | apply pw_below_drewN | apply below_drew1) | exact HB.out)) hb); clear HB; have HB := n0_; clear n0_; (try clear hb); (try clear hb2); (try clear hk); (try clear hi)))
        go_ret
        exact ⟨by first | rfl | (simp [errW_none, errW_some] <;> rfl) | (simp [*, errW_none, errW_some] <;> rfl), by repeat (first | (with_reducible first | exact HB.out | apply below_alloc | apply pw_below_drewN | apply below_drew1) | exact HB.out)⟩

/-- THE ONE PURE STATEMENT of citadellaw01_WordAll: yours. -/
def citadellaw01_WordAll.Pure : Prop := ∀ (a0 : Int) (a1 : Int), (Lit.int .u64 a0).wf = true → (Lit.int .u64 a1).wf = true → ∃ k, citadellaw01_WordAll.f k a0 a1 = some true
theorem citadellaw01_WordAll.walk (P : citadellaw01_WordAll.Pure) (a0 : Int) (a1 : Int) (w : World) (w0 : (Lit.int .u64 a0).wf = true) (w1 : (Lit.int .u64 a1).wf = true) :
    Calls Try.prog 4 #[.int .u64 a0, .int .u64 a1] w fun e w' => e = .returned (.bool true) ∧ Below w.heap.size w w' := by
  obtain ⟨k, h⟩ := P a0 a1 w0 w1
  refine (citadellaw01_WordAll.calls k a0 a1 true w h).mono ?_
  rintro e w' ⟨rfl, hd⟩
  exact ⟨rfl, hd⟩

/-! ### citadelref01_amo: function 35 -/
def citadelref01_amo.f (a0 : Int) (a1 : Int) (a2 : Int) : Option (Int) := if a0 = 1 then (some a2) else (if a0 = 2 then (some (IntKind.u64.wrap (a1 + a2))) else (if a0 = 3 then (some (Go.bits .xor .u64 a1 a2)) else (if a0 = 4 then (some (Go.bits .and .u64 a1 a2)) else (if a0 = 5 then (some (Go.bits .or .u64 a1 a2)) else (if a0 = 6 then ((citadelref01_less.f a2 a1).bind fun t220 => (if t220 = true then (some a2) else (some a1))) else (if a0 = 7 then ((citadelref01_less.f a1 a2).bind fun t221 => (if t221 = true then (some a2) else (some a1))) else (if a0 = 8 then (if a2 < a1 then (some a2) else (some a1)) else (if a0 = 9 then (if a1 < a2 then (some a2) else (some a1)) else (some a1)))))))))
set_option maxHeartbeats 8000000 in
set_option maxRecDepth 100000 in
theorem citadelref01_amo.calls (a0 : Int) (a1 : Int) (a2 : Int) (r : Int) (w : World) (h : citadelref01_amo.f a0 a1 a2 = some r) :
    Calls Try.prog 35 #[.int .i64 a0, .int .u64 a1, .int .u64 a2] w fun e w' => e = .returned (.int .u64 r) ∧ Drawn0 w w' := by
  have H : (if a0 = 1 then (some a2) else (if a0 = 2 then (some (IntKind.u64.wrap (a1 + a2))) else (if a0 = 3 then (some (Go.bits .xor .u64 a1 a2)) else (if a0 = 4 then (some (Go.bits .and .u64 a1 a2)) else (if a0 = 5 then (some (Go.bits .or .u64 a1 a2)) else (if a0 = 6 then ((citadelref01_less.f a2 a1).bind fun t220 => (if t220 = true then (some a2) else (some a1))) else (if a0 = 7 then ((citadelref01_less.f a1 a2).bind fun t221 => (if t221 = true then (some a2) else (some a1))) else (if a0 = 8 then (if a2 < a1 then (some a2) else (some a1)) else (if a0 = 9 then (if a1 < a2 then (some a2) else (some a1)) else (some a1)))))))))) = some r := h
  clear h
  by_cases c4 : a0 = 1
  · rw [if_pos c4] at H
    have c4b0 : (a0 == 1) = true := beq_iff_eq.mpr c4
    have c4b1 : (a0 != 1) = false := bne_eq_false_iff_eq.mpr c4
    clear c4
    obtain rfl := Option.some.inj H
    go_enter Try.func35, Try.ntmps35
    go_wp2
    go_ret
    exact ⟨by first | rfl | (simp; done) | (simp [*]; done), by repeat (first | exact Drawn0.refl _ | apply Drawn0.step)⟩
  · rw [if_neg c4] at H
    have c4b0 : (a0 == 1) = false := beq_eq_false_iff_ne.mpr c4
    have c4b1 : (a0 != 1) = true := bne_iff_ne.mpr c4
    by_cases c5 : a0 = 2
    · rw [if_pos c5] at H
      have c5b0 : (a0 == 2) = true := beq_iff_eq.mpr c5
      have c5b1 : (a0 != 2) = false := bne_eq_false_iff_eq.mpr c5
      clear c5
      obtain rfl := Option.some.inj H
      go_enter Try.func35, Try.ntmps35
      go_wp2
      go_ret
      exact ⟨by first | rfl | (simp; done) | (simp [*]; done), by repeat (first | exact Drawn0.refl _ | apply Drawn0.step)⟩
    · rw [if_neg c5] at H
      have c5b0 : (a0 == 2) = false := beq_eq_false_iff_ne.mpr c5
      have c5b1 : (a0 != 2) = true := bne_iff_ne.mpr c5
      by_cases c6 : a0 = 3
      · rw [if_pos c6] at H
        have c6b0 : (a0 == 3) = true := beq_iff_eq.mpr c6
        have c6b1 : (a0 != 3) = false := bne_eq_false_iff_eq.mpr c6
        clear c6
        obtain rfl := Option.some.inj H
        go_enter Try.func35, Try.ntmps35
        go_wp2
        go_ret
        exact ⟨by first | rfl | (simp; done) | (simp [*]; done), by repeat (first | exact Drawn0.refl _ | apply Drawn0.step)⟩
      · rw [if_neg c6] at H
        have c6b0 : (a0 == 3) = false := beq_eq_false_iff_ne.mpr c6
        have c6b1 : (a0 != 3) = true := bne_iff_ne.mpr c6
        by_cases c7 : a0 = 4
        · rw [if_pos c7] at H
          have c7b0 : (a0 == 4) = true := beq_iff_eq.mpr c7
          have c7b1 : (a0 != 4) = false := bne_eq_false_iff_eq.mpr c7
          clear c7
          obtain rfl := Option.some.inj H
          go_enter Try.func35, Try.ntmps35
          go_wp2
          go_ret
          exact ⟨by first | rfl | (simp; done) | (simp [*]; done), by repeat (first | exact Drawn0.refl _ | apply Drawn0.step)⟩
        · rw [if_neg c7] at H
          have c7b0 : (a0 == 4) = false := beq_eq_false_iff_ne.mpr c7
          have c7b1 : (a0 != 4) = true := bne_iff_ne.mpr c7
          by_cases c8 : a0 = 5
          · rw [if_pos c8] at H
            have c8b0 : (a0 == 5) = true := beq_iff_eq.mpr c8
            have c8b1 : (a0 != 5) = false := bne_eq_false_iff_eq.mpr c8
            clear c8
            obtain rfl := Option.some.inj H
            go_enter Try.func35, Try.ntmps35
            go_wp2
            go_ret
            exact ⟨by first | rfl | (simp; done) | (simp [*]; done), by repeat (first | exact Drawn0.refl _ | apply Drawn0.step)⟩
          · rw [if_neg c8] at H
            have c8b0 : (a0 == 5) = false := beq_eq_false_iff_ne.mpr c8
            have c8b1 : (a0 != 5) = true := bne_iff_ne.mpr c8
            by_cases c9 : a0 = 6
            · rw [if_pos c9] at H
              have c9b0 : (a0 == 6) = true := beq_iff_eq.mpr c9
              have c9b1 : (a0 != 6) = false := bne_eq_false_iff_eq.mpr c9
              clear c9
              replace H := Option.bind_eq_some_iff.mp H
              obtain ⟨t220, A100, H⟩ := H
              replace H : (if t220 = true then (some a2) else (some a1)) = some r := H
              have A10 := Aside0.mk A100
              clear A100
              by_cases c11 : t220 = true
              · subst c11
                have H1 : (some a2) = some r := by rw [if_pos rfl] at H; exact H
                clear H
                have H := H1
                clear H1
                obtain rfl := Option.some.inj H
                go_enter Try.func35, Try.ntmps35
                go_wp2_with (first | ((with_reducible refine gate_callee (f := 26) rfl ?_); refine goesL_ (some 35) rfl rfl Try.func26 (by kernel_rfl) rfl #[.int .u64 a2, .int .u64 a1] rfl (by (try simp only [List.map_toArray, List.map_cons, List.map_nil]); first | done | rfl | (simp only [List.length_drop, List.length_take]; rfl)) ?_; (with_reducible refine (citadelref01_less.calls a2 a1 true _ A10.out).mono ?_); rintro e w' ⟨rfl, ⟨nd, rfl⟩⟩; refine ⟨_, rfl, ?_⟩))
                go_ret
                exact ⟨by first | rfl | (simp; done) | (simp [*]; done), by repeat (first | exact Drawn0.refl _ | apply Drawn0.step)⟩
              · replace c11 := Bool.eq_false_iff.mpr c11
                subst c11
                have H1 : (some a1) = some r := by rw [if_neg (show ¬ (false = true) by decide)] at H; exact H
                clear H
                have H := H1
                clear H1
                obtain rfl := Option.some.inj H
                go_enter Try.func35, Try.ntmps35
                go_wp2_with (first | ((with_reducible refine gate_callee (f := 26) rfl ?_); refine goesL_ (some 35) rfl rfl Try.func26 (by kernel_rfl) rfl #[.int .u64 a2, .int .u64 a1] rfl (by (try simp only [List.map_toArray, List.map_cons, List.map_nil]); first | done | rfl | (simp only [List.length_drop, List.length_take]; rfl)) ?_; (with_reducible refine (citadelref01_less.calls a2 a1 false _ A10.out).mono ?_); rintro e w' ⟨rfl, ⟨nd, rfl⟩⟩; refine ⟨_, rfl, ?_⟩))
                go_ret
                exact ⟨by first | rfl | (simp; done) | (simp [*]; done), by repeat (first | exact Drawn0.refl _ | apply Drawn0.step)⟩
            · rw [if_neg c9] at H
              have c9b0 : (a0 == 6) = false := beq_eq_false_iff_ne.mpr c9
              have c9b1 : (a0 != 6) = true := bne_iff_ne.mpr c9
              by_cases c12 : a0 = 7
              · rw [if_pos c12] at H
                have c12b0 : (a0 == 7) = true := beq_iff_eq.mpr c12
                have c12b1 : (a0 != 7) = false := bne_eq_false_iff_eq.mpr c12
                clear c12
                replace H := Option.bind_eq_some_iff.mp H
                obtain ⟨t221, A130, H⟩ := H
                replace H : (if t221 = true then (some a2) else (some a1)) = some r := H
                have A13 := Aside0.mk A130
                clear A130
                by_cases c14 : t221 = true
                · subst c14
                  have H1 : (some a2) = some r := by rw [if_pos rfl] at H; exact H
                  clear H
                  have H := H1
                  clear H1
                  obtain rfl := Option.some.inj H
                  go_enter Try.func35, Try.ntmps35
                  go_wp2_with (first | ((with_reducible refine gate_callee (f := 26) rfl ?_); refine goesL_ (some 41) rfl rfl Try.func26 (by kernel_rfl) rfl #[.int .u64 a1, .int .u64 a2] rfl (by (try simp only [List.map_toArray, List.map_cons, List.map_nil]); first | done | rfl | (simp only [List.length_drop, List.length_take]; rfl)) ?_; (with_reducible refine (citadelref01_less.calls a1 a2 true _ A13.out).mono ?_); rintro e w' ⟨rfl, ⟨nd, rfl⟩⟩; refine ⟨_, rfl, ?_⟩))
                  go_ret
                  exact ⟨by first | rfl | (simp; done) | (simp [*]; done), by repeat (first | exact Drawn0.refl _ | apply Drawn0.step)⟩
                · replace c14 := Bool.eq_false_iff.mpr c14
                  subst c14
                  have H1 : (some a1) = some r := by rw [if_neg (show ¬ (false = true) by decide)] at H; exact H
                  clear H
                  have H := H1
                  clear H1
                  obtain rfl := Option.some.inj H
                  go_enter Try.func35, Try.ntmps35
                  go_wp2_with (first | ((with_reducible refine gate_callee (f := 26) rfl ?_); refine goesL_ (some 41) rfl rfl Try.func26 (by kernel_rfl) rfl #[.int .u64 a1, .int .u64 a2] rfl (by (try simp only [List.map_toArray, List.map_cons, List.map_nil]); first | done | rfl | (simp only [List.length_drop, List.length_take]; rfl)) ?_; (with_reducible refine (citadelref01_less.calls a1 a2 false _ A13.out).mono ?_); rintro e w' ⟨rfl, ⟨nd, rfl⟩⟩; refine ⟨_, rfl, ?_⟩))
                  go_ret
                  exact ⟨by first | rfl | (simp; done) | (simp [*]; done), by repeat (first | exact Drawn0.refl _ | apply Drawn0.step)⟩
              · rw [if_neg c12] at H
                have c12b0 : (a0 == 7) = false := beq_eq_false_iff_ne.mpr c12
                have c12b1 : (a0 != 7) = true := bne_iff_ne.mpr c12
                by_cases c15 : a0 = 8
                · rw [if_pos c15] at H
                  have c15b0 : (a0 == 8) = true := beq_iff_eq.mpr c15
                  have c15b1 : (a0 != 8) = false := bne_eq_false_iff_eq.mpr c15
                  clear c15
                  by_cases c16 : a2 < a1
                  · rw [if_pos c16] at H
                    have c16b0 : decide (a2 < a1) = true := decide_eq_true c16
                    clear c16
                    obtain rfl := Option.some.inj H
                    go_enter Try.func35, Try.ntmps35
                    go_wp2
                    go_ret
                    exact ⟨by first | rfl | (simp; done) | (simp [*]; done), by repeat (first | exact Drawn0.refl _ | apply Drawn0.step)⟩
                  · rw [if_neg c16] at H
                    have c16b0 : decide (a2 < a1) = false := decide_eq_false c16
                    clear c16
                    obtain rfl := Option.some.inj H
                    go_enter Try.func35, Try.ntmps35
                    go_wp2
                    go_ret
                    exact ⟨by first | rfl | (simp; done) | (simp [*]; done), by repeat (first | exact Drawn0.refl _ | apply Drawn0.step)⟩
                · rw [if_neg c15] at H
                  have c15b0 : (a0 == 8) = false := beq_eq_false_iff_ne.mpr c15
                  have c15b1 : (a0 != 8) = true := bne_iff_ne.mpr c15
                  by_cases c17 : a0 = 9
                  · rw [if_pos c17] at H
                    have c17b0 : (a0 == 9) = true := beq_iff_eq.mpr c17
                    have c17b1 : (a0 != 9) = false := bne_eq_false_iff_eq.mpr c17
                    clear c17
                    by_cases c18 : a1 < a2
                    · rw [if_pos c18] at H
                      have c18b0 : decide (a1 < a2) = true := decide_eq_true c18
                      clear c18
                      obtain rfl := Option.some.inj H
                      go_enter Try.func35, Try.ntmps35
                      go_wp2
                      go_ret
                      exact ⟨by first | rfl | (simp; done) | (simp [*]; done), by repeat (first | exact Drawn0.refl _ | apply Drawn0.step)⟩
                    · rw [if_neg c18] at H
                      have c18b0 : decide (a1 < a2) = false := decide_eq_false c18
                      clear c18
                      obtain rfl := Option.some.inj H
                      go_enter Try.func35, Try.ntmps35
                      go_wp2
                      go_ret
                      exact ⟨by first | rfl | (simp; done) | (simp [*]; done), by repeat (first | exact Drawn0.refl _ | apply Drawn0.step)⟩
                  · rw [if_neg c17] at H
                    have c17b0 : (a0 == 9) = false := beq_eq_false_iff_ne.mpr c17
                    have c17b1 : (a0 != 9) = true := bne_iff_ne.mpr c17
                    obtain rfl := Option.some.inj H
                    go_enter Try.func35, Try.ntmps35
                    go_wp2
                    go_ret
                    exact ⟨by first | rfl | (simp; done) | (simp [*]; done), by repeat (first | exact Drawn0.refl _ | apply Drawn0.step)⟩

/-! ### citadelref01_Amo: function 19 -/
def citadelref01_Amo.f (a0 : Int) (a1 : Int) (a2 : Int) (a3 : Int) : Option (Int) := if a1 = 4 then ((citadelref01_W.f a2).bind fun t222 => ((citadelref01_W.f a3).bind fun t223 => ((citadelref01_amo.f a0 t222 t223).bind fun t224 => (some (Int.tmod t224 4294967296))))) else ((citadelref01_amo.f a0 a2 a3).bind fun t225 => (some t225))
set_option maxHeartbeats 8000000 in
set_option maxRecDepth 100000 in
theorem citadelref01_Amo.calls (a0 : Int) (a1 : Int) (a2 : Int) (a3 : Int) (r : Int) (w : World) (h : citadelref01_Amo.f a0 a1 a2 a3 = some r) :
    Calls Try.prog 19 #[.int .i64 a0, .int .i64 a1, .int .u64 a2, .int .u64 a3] w fun e w' => e = .returned (.int .u64 r) ∧ Drawn0 w w' := by
  have H : (if a1 = 4 then ((citadelref01_W.f a2).bind fun t222 => ((citadelref01_W.f a3).bind fun t223 => ((citadelref01_amo.f a0 t222 t223).bind fun t224 => (some (Int.tmod t224 4294967296))))) else ((citadelref01_amo.f a0 a2 a3).bind fun t225 => (some t225))) = some r := h
  clear h
  by_cases c5 : a1 = 4
  · rw [if_pos c5] at H
    have c5b0 : (a1 == 4) = true := beq_iff_eq.mpr c5
    have c5b1 : (a1 != 4) = false := bne_eq_false_iff_eq.mpr c5
    clear c5
    replace H := Option.bind_eq_some_iff.mp H
    obtain ⟨t222, A60, H⟩ := H
    replace H : ((citadelref01_W.f a3).bind fun t223 => ((citadelref01_amo.f a0 t222 t223).bind fun t224 => (some (Int.tmod t224 4294967296)))) = some r := H
    have A6 := Aside0.mk A60
    clear A60
    replace H := Option.bind_eq_some_iff.mp H
    obtain ⟨t223, A70, H⟩ := H
    replace H : ((citadelref01_amo.f a0 t222 t223).bind fun t224 => (some (Int.tmod t224 4294967296))) = some r := H
    have A7 := Aside0.mk A70
    clear A70
    replace H := Option.bind_eq_some_iff.mp H
    obtain ⟨t224, A80, H⟩ := H
    replace H : (some (Int.tmod t224 4294967296)) = some r := H
    have A8 := Aside0.mk A80
    clear A80
    obtain rfl := Option.some.inj H
    go_enter Try.func19, Try.ntmps19
    go_wp2_with (first | ((with_reducible refine gate_callee (f := 32) rfl ?_); refine goesL_ (some 13) rfl rfl Try.func32 (by kernel_rfl) rfl #[.int .u64 a2] rfl (by (try simp only [List.map_toArray, List.map_cons, List.map_nil]); first | done | rfl | (simp only [List.length_drop, List.length_take]; rfl)) ?_; (with_reducible refine (citadelref01_W.calls a2 t222 _ A6.out).mono ?_); rintro e w' ⟨rfl, ⟨nd, rfl⟩⟩; refine ⟨_, rfl, ?_⟩) | ((with_reducible refine gate_callee (f := 32) rfl ?_); refine goesL_ (some 15) rfl rfl Try.func32 (by kernel_rfl) rfl #[.int .u64 a3] rfl (by (try simp only [List.map_toArray, List.map_cons, List.map_nil]); first | done | rfl | (simp only [List.length_drop, List.length_take]; rfl)) ?_; (with_reducible refine (citadelref01_W.calls a3 t223 _ A7.out).mono ?_); rintro e w' ⟨rfl, ⟨nd, rfl⟩⟩; refine ⟨_, rfl, ?_⟩) | ((with_reducible refine gate_callee (f := 35) rfl ?_); refine goesL_ (some 16) rfl rfl Try.func35 (by kernel_rfl) rfl #[.int .i64 a0, .int .u64 t222, .int .u64 t223] rfl (by (try simp only [List.map_toArray, List.map_cons, List.map_nil]); first | done | rfl | (simp only [List.length_drop, List.length_take]; rfl)) ?_; (with_reducible refine (citadelref01_amo.calls a0 t222 t223 t224 _ A8.out).mono ?_); rintro e w' ⟨rfl, ⟨nd, rfl⟩⟩; refine ⟨_, rfl, ?_⟩))
    go_ret
    exact ⟨by first | rfl | (simp; done) | (simp [*]; done), by repeat (first | exact Drawn0.refl _ | apply Drawn0.step)⟩
  · rw [if_neg c5] at H
    have c5b0 : (a1 == 4) = false := beq_eq_false_iff_ne.mpr c5
    have c5b1 : (a1 != 4) = true := bne_iff_ne.mpr c5
    replace H := Option.bind_eq_some_iff.mp H
    obtain ⟨t225, A90, H⟩ := H
    replace H : (some t225) = some r := H
    have A9 := Aside0.mk A90
    clear A90
    obtain rfl := Option.some.inj H
    go_enter Try.func19, Try.ntmps19
    go_wp2_with (first | ((with_reducible refine gate_callee (f := 35) rfl ?_); refine goesL_ (some 21) rfl rfl Try.func35 (by kernel_rfl) rfl #[.int .i64 a0, .int .u64 a2, .int .u64 a3] rfl (by (try simp only [List.map_toArray, List.map_cons, List.map_nil]); first | done | rfl | (simp only [List.length_drop, List.length_take]; rfl)) ?_; (with_reducible refine (citadelref01_amo.calls a0 a2 a3 t225 _ A9.out).mono ?_); rintro e w' ⟨rfl, ⟨nd, rfl⟩⟩; refine ⟨_, rfl, ?_⟩))
    go_ret
    exact ⟨by first | rfl | (simp; done) | (simp [*]; done), by repeat (first | exact Drawn0.refl _ | apply Drawn0.step)⟩

/-! ### citadellaw01_WordAmos: function 5 -/
def citadellaw01_WordAmos.l0 : Nat → Int → Int → Int → Int → Option (Bool)
  | 0, _, _, _, _ => none
  | k + 1, x0, x1, x2, x7 => if x7 ≤ 11 then ((word_Amo.f x7 x0 x1 x2).bind fun t227 => ((citadelref01_Amo.f x7 x0 x1 x2).bind fun t228 => (if t227 = t228 then ((word_Amo.f x7 4 x1 x2).bind fun t229 => ((citadelref01_Amo.f x7 4 x1 x2).bind fun t230 => (if t229 = t230 then ((word_Amo.f x7 8 x1 x2).bind fun t231 => ((citadelref01_Amo.f x7 8 x1 x2).bind fun t232 => (if t231 = t232 then (citadellaw01_WordAmos.l0 k x0 x1 x2 (wrap64 (x7 + 1))) else (some false)))) else (some false)))) else (some false)))) else ((citadellaw01_awake.f).bind fun t226 => (some t226))
def citadellaw01_WordAmos.f (k : Nat) (a0 : Int) (a1 : Int) (a2 : Int) : Option (Bool) := citadellaw01_WordAmos.l0 k a0 a1 a2 (-1)
theorem citadellaw01_WordAmos.mono_l : ∀ k, (∀ y0 y1 y2 y3, LeO (citadellaw01_WordAmos.l0 k y0 y1 y2 y3) (citadellaw01_WordAmos.l0 (k + 1) y0 y1 y2 y3))
  | 0 => fun _ _ _ _ r h => by simp [citadellaw01_WordAmos.l0] at h
  | k + 1 => by
    have ih0 := citadellaw01_WordAmos.mono_l k
    · intro y0 y1 y2 y3
      unfold citadellaw01_WordAmos.l0
      repeat' first
      | (with_reducible exact ih0 _ _ _ _)
      | (with_reducible exact LeO.refl _)
      | (with_reducible exact LeO.none _)
      | (with_reducible refine LeO.ite ?_ ?_)
      | (with_reducible refine LeO.bind ?_ (fun _ => ?_))
      | exact ih0 _ _ _ _
      | exact LeO.none _
      | refine LeO.ite ?_ ?_
      | refine LeO.bind ?_ (fun _ => ?_)
theorem citadellaw01_WordAmos.mono : ∀ a0 a1 a2 k, LeO (citadellaw01_WordAmos.f k a0 a1 a2) (citadellaw01_WordAmos.f (k + 1) a0 a1 a2) := by
  intro a0 a1 a2 k
  have ih0 := citadellaw01_WordAmos.mono_l k
  unfold citadellaw01_WordAmos.f
  repeat' first
      | (with_reducible exact ih0 _ _ _ _)
      | (with_reducible exact LeO.refl _)
      | (with_reducible exact LeO.none _)
      | (with_reducible refine LeO.ite ?_ ?_)
      | (with_reducible refine LeO.bind ?_ (fun _ => ?_))
      | exact ih0 _ _ _ _
      | exact LeO.none _
      | refine LeO.ite ?_ ?_
      | refine LeO.bind ?_ (fun _ => ?_)
set_option maxHeartbeats 8000000 in
set_option maxRecDepth 100000 in
theorem citadellaw01_WordAmos.calls (k : Nat) (a0 : Int) (a1 : Int) (a2 : Int) (r : Bool) (w : World) (h : citadellaw01_WordAmos.f k a0 a1 a2 = some r) :
    Calls Try.prog 5 #[.int .i64 a0, .int .u64 a1, .int .u64 a2] w fun e w' => e = .returned (.bool r) ∧ Below w.heap.size w w' := by
  have HB := Aside0.mk (Below.refl w.heap.size w)
  have H : (citadellaw01_WordAmos.l0 k a0 a1 a2 (-1)) = some r := h
  clear h
  have H' := Aside0.mk H
  clear H
  go_enter Try.func5, Try.ntmps5
  go_wp2
  go_loopg [7] k (fun kq v7 w' => ∃ (x7_1 : Int), v7 = .int .i64 x7_1 ∧ Aside0 (citadellaw01_WordAmos.l0 kq a0 a1 a2 x7_1 = some r) ∧ Aside0 (kq ≤ k) ∧ Aside0 (Below w.heap.size w w'))
  case atStart => exact ⟨((-1)), (by first | rfl | (simp; done) | (simp [*]; done)), H', ⟨Nat.le_refl _⟩, ⟨by repeat (first | (with_reducible first | exact HB.out | apply below_alloc | apply pw_below_drewN | apply below_drew1) | exact HB.out)⟩⟩
  case round =>
    clear H'
    try clear p2
    obtain ⟨x7_1, rfl, HA, HK1, HB⟩ := hrel
    cases gk with
    | zero => exact absurd HA.out (by simp [citadellaw01_WordAmos.l0])
    | succ k1 =>
      have H := HA.out
      clear HA
      simp only [citadellaw01_WordAmos.l0] at H
      by_cases c4 : x7_1 ≤ 11
      · rw [if_pos c4] at H
        have c4b0 : decide (x7_1 ≤ 11) = true := decide_eq_true c4
        clear c4
        replace H := Option.bind_eq_some_iff.mp H
        obtain ⟨t227, A50, H⟩ := H
        replace H : ((citadelref01_Amo.f x7_1 a0 a1 a2).bind fun t228 => (if t227 = t228 then ((word_Amo.f x7_1 4 a1 a2).bind fun t229 => ((citadelref01_Amo.f x7_1 4 a1 a2).bind fun t230 => (if t229 = t230 then ((word_Amo.f x7_1 8 a1 a2).bind fun t231 => ((citadelref01_Amo.f x7_1 8 a1 a2).bind fun t232 => (if t231 = t232 then (citadellaw01_WordAmos.l0 k1 a0 a1 a2 (wrap64 (x7_1 + 1))) else (some false)))) else (some false)))) else (some false))) = some r := H
        have A5 := Aside0.mk A50
        clear A50
        replace H := Option.bind_eq_some_iff.mp H
        obtain ⟨t228, A60, H⟩ := H
        replace H : (if t227 = t228 then ((word_Amo.f x7_1 4 a1 a2).bind fun t229 => ((citadelref01_Amo.f x7_1 4 a1 a2).bind fun t230 => (if t229 = t230 then ((word_Amo.f x7_1 8 a1 a2).bind fun t231 => ((citadelref01_Amo.f x7_1 8 a1 a2).bind fun t232 => (if t231 = t232 then (citadellaw01_WordAmos.l0 k1 a0 a1 a2 (wrap64 (x7_1 + 1))) else (some false)))) else (some false)))) else (some false)) = some r := H
        have A6 := Aside0.mk A60
        clear A60
        by_cases c7 : t227 = t228
        · rw [if_pos c7] at H
          have c7b0 : (t227 == t228) = true := beq_iff_eq.mpr c7
          have c7b1 : (t227 != t228) = false := bne_eq_false_iff_eq.mpr c7
          clear c7
          replace H := Option.bind_eq_some_iff.mp H
          obtain ⟨t229, A80, H⟩ := H
          replace H : ((citadelref01_Amo.f x7_1 4 a1 a2).bind fun t230 => (if t229 = t230 then ((word_Amo.f x7_1 8 a1 a2).bind fun t231 => ((citadelref01_Amo.f x7_1 8 a1 a2).bind fun t232 => (if t231 = t232 then (citadellaw01_WordAmos.l0 k1 a0 a1 a2 (wrap64 (x7_1 + 1))) else (some false)))) else (some false))) = some r := H
          have A8 := Aside0.mk A80
          clear A80
          replace H := Option.bind_eq_some_iff.mp H
          obtain ⟨t230, A90, H⟩ := H
          replace H : (if t229 = t230 then ((word_Amo.f x7_1 8 a1 a2).bind fun t231 => ((citadelref01_Amo.f x7_1 8 a1 a2).bind fun t232 => (if t231 = t232 then (citadellaw01_WordAmos.l0 k1 a0 a1 a2 (wrap64 (x7_1 + 1))) else (some false)))) else (some false)) = some r := H
          have A9 := Aside0.mk A90
          clear A90
          by_cases c10 : t229 = t230
          · rw [if_pos c10] at H
            have c10b0 : (t229 == t230) = true := beq_iff_eq.mpr c10
            have c10b1 : (t229 != t230) = false := bne_eq_false_iff_eq.mpr c10
            clear c10
            replace H := Option.bind_eq_some_iff.mp H
            obtain ⟨t231, A110, H⟩ := H
            replace H : ((citadelref01_Amo.f x7_1 8 a1 a2).bind fun t232 => (if t231 = t232 then (citadellaw01_WordAmos.l0 k1 a0 a1 a2 (wrap64 (x7_1 + 1))) else (some false))) = some r := H
            have A11 := Aside0.mk A110
            clear A110
            replace H := Option.bind_eq_some_iff.mp H
            obtain ⟨t232, A120, H⟩ := H
            replace H : (if t231 = t232 then (citadellaw01_WordAmos.l0 k1 a0 a1 a2 (wrap64 (x7_1 + 1))) else (some false)) = some r := H
            have A12 := Aside0.mk A120
            clear A120
            by_cases c13 : t231 = t232
            · rw [if_pos c13] at H
              have c13b0 : (t231 == t232) = true := beq_iff_eq.mpr c13
              have c13b1 : (t231 != t232) = false := bne_eq_false_iff_eq.mpr c13
              clear c13
              have H' := Aside0.mk H
              clear H
              go_wp2_with (first | ((with_reducible refine gate_callee (f := 18) rfl ?_); refine goesL_ (some 16) rfl rfl Try.func18 (by kernel_rfl) rfl #[.int .i64 x7_1, .int .i64 a0, .int .u64 a1, .int .u64 a2] rfl (by (try simp only [List.map_toArray, List.map_cons, List.map_nil]); first | done | rfl | (simp only [List.length_drop, List.length_take]; rfl)) ?_; (with_reducible refine (word_Amo.calls x7_1 a0 a1 a2 t227 _ A5.out).mono ?_); rintro e w14 ⟨rfl, hb⟩; refine ⟨_, rfl, ?_⟩; have n0_ := Aside0.mk (below_step (by repeat (first | (with_reducible first | exact HB.out | apply below_alloc | apply pw_below_drewN | apply below_drew1) | exact HB.out)) hb); clear HB; have HB := n0_; clear n0_; (try clear hb); (try clear hb2); (try clear hk); (try clear hi)) | ((with_reducible refine gate_callee (f := 19) rfl ?_); refine goesL_ (some 21) rfl rfl Try.func19 (by kernel_rfl) rfl #[.int .i64 x7_1, .int .i64 a0, .int .u64 a1, .int .u64 a2] rfl (by (try simp only [List.map_toArray, List.map_cons, List.map_nil]); first | done | rfl | (simp only [List.length_drop, List.length_take]; rfl)) ?_; (with_reducible refine (citadelref01_Amo.calls x7_1 a0 a1 a2 t228 _ A6.out).mono ?_); rintro e w' ⟨rfl, ⟨nd, rfl⟩⟩; refine ⟨_, rfl, ?_⟩) | (go_at_call 18; (with_reducible refine (word_Amo.calls x7_1 4 a1 a2 t229 _ A8.out).mono ?_); rintro e w15 ⟨rfl, hb⟩; have n0_ := Aside0.mk (below_step (by repeat (first | (with_reducible first | exact HB.out | apply below_alloc | apply pw_below_drewN | apply below_drew1) | exact HB.out)) hb); clear HB; have HB := n0_; clear n0_; (try clear hb); (try clear hb2); (try clear hk); (try clear hi)) | (go_at_call 19; (with_reducible refine (citadelref01_Amo.calls x7_1 4 a1 a2 t230 _ A9.out).mono ?_); rintro e w' ⟨rfl, ⟨nd, rfl⟩⟩) | (go_at_call 18; (with_reducible refine (word_Amo.calls x7_1 8 a1 a2 t231 _ A11.out).mono ?_); rintro e w16 ⟨rfl, hb⟩; have n0_ := Aside0.mk (below_step (by repeat (first | (with_reducible first | exact HB.out | apply below_alloc | apply pw_below_drewN | apply below_drew1) | exact HB.out)) hb); clear HB; have HB := n0_; clear n0_; (try clear hb); (try clear hb2); (try clear hk); (try clear hi)) | (go_at_call 19; (with_reducible refine (citadelref01_Amo.calls x7_1 8 a1 a2 t232 _ A12.out).mono ?_); rintro e w' ⟨rfl, ⟨nd, rfl⟩⟩))
              go_roundg k1
              case measure => have := HK1.out; omega
              case rel => exact ⟨(wrap64 (x7_1 + 1)), (by first | rfl | (simp; done) | (simp [*]; done)), H', ⟨by have := HK1.out; omega⟩, ⟨by repeat (first | (with_reducible first | exact HB.out | apply below_alloc | apply pw_below_drewN | apply below_drew1) | exact HB.out)⟩⟩
            · rw [if_neg c13] at H
              have c13b0 : (t231 == t232) = false := beq_eq_false_iff_ne.mpr c13
              have c13b1 : (t231 != t232) = true := bne_iff_ne.mpr c13
              obtain rfl := Option.some.inj H
              go_wp2_with (first | ((with_reducible refine gate_callee (f := 18) rfl ?_); refine goesL_ (some 16) rfl rfl Try.func18 (by kernel_rfl) rfl #[.int .i64 x7_1, .int .i64 a0, .int .u64 a1, .int .u64 a2] rfl (by (try simp only [List.map_toArray, List.map_cons, List.map_nil]); first | done | rfl | (simp only [List.length_drop, List.length_take]; rfl)) ?_; (with_reducible refine (word_Amo.calls x7_1 a0 a1 a2 t227 _ A5.out).mono ?_); rintro e w17 ⟨rfl, hb⟩; refine ⟨_, rfl, ?_⟩; have n0_ := Aside0.mk (below_step (by repeat (first | (with_reducible first | exact HB.out | apply below_alloc | apply pw_below_drewN | apply below_drew1) | exact HB.out)) hb); clear HB; have HB := n0_; clear n0_; (try clear hb); (try clear hb2); (try clear hk); (try clear hi)) | ((with_reducible refine gate_callee (f := 19) rfl ?_); refine goesL_ (some 21) rfl rfl Try.func19 (by kernel_rfl) rfl #[.int .i64 x7_1, .int .i64 a0, .int .u64 a1, .int .u64 a2] rfl (by (try simp only [List.map_toArray, List.map_cons, List.map_nil]); first | done | rfl | (simp only [List.length_drop, List.length_take]; rfl)) ?_; (with_reducible refine (citadelref01_Amo.calls x7_1 a0 a1 a2 t228 _ A6.out).mono ?_); rintro e w' ⟨rfl, ⟨nd, rfl⟩⟩; refine ⟨_, rfl, ?_⟩) | (go_at_call 18; (with_reducible refine (word_Amo.calls x7_1 4 a1 a2 t229 _ A8.out).mono ?_); rintro e w18 ⟨rfl, hb⟩; have n0_ := Aside0.mk (below_step (by repeat (first | (with_reducible first | exact HB.out | apply below_alloc | apply pw_below_drewN | apply below_drew1) | exact HB.out)) hb); clear HB; have HB := n0_; clear n0_; (try clear hb); (try clear hb2); (try clear hk); (try clear hi)) | (go_at_call 19; (with_reducible refine (citadelref01_Amo.calls x7_1 4 a1 a2 t230 _ A9.out).mono ?_); rintro e w' ⟨rfl, ⟨nd, rfl⟩⟩) | (go_at_call 18; (with_reducible refine (word_Amo.calls x7_1 8 a1 a2 t231 _ A11.out).mono ?_); rintro e w19 ⟨rfl, hb⟩; have n0_ := Aside0.mk (below_step (by repeat (first | (with_reducible first | exact HB.out | apply below_alloc | apply pw_below_drewN | apply below_drew1) | exact HB.out)) hb); clear HB; have HB := n0_; clear n0_; (try clear hb); (try clear hb2); (try clear hk); (try clear hi)) | (go_at_call 19; (with_reducible refine (citadelref01_Amo.calls x7_1 8 a1 a2 t232 _ A12.out).mono ?_); rintro e w' ⟨rfl, ⟨nd, rfl⟩⟩))
              go_ret
              exact ⟨by first | rfl | (simp [errW_none, errW_some] <;> rfl) | (simp [*, errW_none, errW_some] <;> rfl), by repeat (first | (with_reducible first | exact HB.out | apply below_alloc | apply pw_below_drewN | apply below_drew1) | exact HB.out)⟩
          · rw [if_neg c10] at H
            have c10b0 : (t229 == t230) = false := beq_eq_false_iff_ne.mpr c10
            have c10b1 : (t229 != t230) = true := bne_iff_ne.mpr c10
            obtain rfl := Option.some.inj H
            go_wp2_with (first | ((with_reducible refine gate_callee (f := 18) rfl ?_); refine goesL_ (some 16) rfl rfl Try.func18 (by kernel_rfl) rfl #[.int .i64 x7_1, .int .i64 a0, .int .u64 a1, .int .u64 a2] rfl (by (try simp only [List.map_toArray, List.map_cons, List.map_nil]); first | done | rfl | (simp only [List.length_drop, List.length_take]; rfl)) ?_; (with_reducible refine (word_Amo.calls x7_1 a0 a1 a2 t227 _ A5.out).mono ?_); rintro e w20 ⟨rfl, hb⟩; refine ⟨_, rfl, ?_⟩; have n0_ := Aside0.mk (below_step (by repeat (first | (with_reducible first | exact HB.out | apply below_alloc | apply pw_below_drewN | apply below_drew1) | exact HB.out)) hb); clear HB; have HB := n0_; clear n0_; (try clear hb); (try clear hb2); (try clear hk); (try clear hi)) | ((with_reducible refine gate_callee (f := 19) rfl ?_); refine goesL_ (some 21) rfl rfl Try.func19 (by kernel_rfl) rfl #[.int .i64 x7_1, .int .i64 a0, .int .u64 a1, .int .u64 a2] rfl (by (try simp only [List.map_toArray, List.map_cons, List.map_nil]); first | done | rfl | (simp only [List.length_drop, List.length_take]; rfl)) ?_; (with_reducible refine (citadelref01_Amo.calls x7_1 a0 a1 a2 t228 _ A6.out).mono ?_); rintro e w' ⟨rfl, ⟨nd, rfl⟩⟩; refine ⟨_, rfl, ?_⟩) | (go_at_call 18; (with_reducible refine (word_Amo.calls x7_1 4 a1 a2 t229 _ A8.out).mono ?_); rintro e w21 ⟨rfl, hb⟩; have n0_ := Aside0.mk (below_step (by repeat (first | (with_reducible first | exact HB.out | apply below_alloc | apply pw_below_drewN | apply below_drew1) | exact HB.out)) hb); clear HB; have HB := n0_; clear n0_; (try clear hb); (try clear hb2); (try clear hk); (try clear hi)) | (go_at_call 19; (with_reducible refine (citadelref01_Amo.calls x7_1 4 a1 a2 t230 _ A9.out).mono ?_); rintro e w' ⟨rfl, ⟨nd, rfl⟩⟩))
            go_ret
            exact ⟨by first | rfl | (simp [errW_none, errW_some] <;> rfl) | (simp [*, errW_none, errW_some] <;> rfl), by repeat (first | (with_reducible first | exact HB.out | apply below_alloc | apply pw_below_drewN | apply below_drew1) | exact HB.out)⟩
        · rw [if_neg c7] at H
          have c7b0 : (t227 == t228) = false := beq_eq_false_iff_ne.mpr c7
          have c7b1 : (t227 != t228) = true := bne_iff_ne.mpr c7
          obtain rfl := Option.some.inj H
          go_wp2_with (first | ((with_reducible refine gate_callee (f := 18) rfl ?_); refine goesL_ (some 16) rfl rfl Try.func18 (by kernel_rfl) rfl #[.int .i64 x7_1, .int .i64 a0, .int .u64 a1, .int .u64 a2] rfl (by (try simp only [List.map_toArray, List.map_cons, List.map_nil]); first | done | rfl | (simp only [List.length_drop, List.length_take]; rfl)) ?_; (with_reducible refine (word_Amo.calls x7_1 a0 a1 a2 t227 _ A5.out).mono ?_); rintro e w22 ⟨rfl, hb⟩; refine ⟨_, rfl, ?_⟩; have n0_ := Aside0.mk (below_step (by repeat (first | (with_reducible first | exact HB.out | apply below_alloc | apply pw_below_drewN | apply below_drew1) | exact HB.out)) hb); clear HB; have HB := n0_; clear n0_; (try clear hb); (try clear hb2); (try clear hk); (try clear hi)) | ((with_reducible refine gate_callee (f := 19) rfl ?_); refine goesL_ (some 21) rfl rfl Try.func19 (by kernel_rfl) rfl #[.int .i64 x7_1, .int .i64 a0, .int .u64 a1, .int .u64 a2] rfl (by (try simp only [List.map_toArray, List.map_cons, List.map_nil]); first | done | rfl | (simp only [List.length_drop, List.length_take]; rfl)) ?_; (with_reducible refine (citadelref01_Amo.calls x7_1 a0 a1 a2 t228 _ A6.out).mono ?_); rintro e w' ⟨rfl, ⟨nd, rfl⟩⟩; refine ⟨_, rfl, ?_⟩))
          go_ret
          exact ⟨by first | rfl | (simp [errW_none, errW_some] <;> rfl) | (simp [*, errW_none, errW_some] <;> rfl), by repeat (first | (with_reducible first | exact HB.out | apply below_alloc | apply pw_below_drewN | apply below_drew1) | exact HB.out)⟩
      · rw [if_neg c4] at H
        have c4b0 : decide (x7_1 ≤ 11) = false := decide_eq_false c4
        clear c4
        replace H := Option.bind_eq_some_iff.mp H
        obtain ⟨t226, A230, H⟩ := H
        replace H : (some t226) = some r := H
        have A23 := Aside0.mk A230
        clear A230
        obtain rfl := Option.some.inj H
        go_wp2_with (first | ((with_reducible refine gate_callee (f := 17) rfl ?_); refine goesL_ (some 45) rfl rfl Try.func17 (by kernel_rfl) rfl #[] rfl (by (try simp only [List.map_toArray, List.map_cons, List.map_nil]); first | done | rfl | (simp only [List.length_drop, List.length_take]; rfl)) ?_; (with_reducible refine (citadellaw01_awake.calls  t226 _ A23.out).mono ?_); rintro e w24 ⟨rfl, hb⟩; refine ⟨_, rfl, ?_⟩; have n0_ := Aside0.mk (below_step (by repeat (first | (with_reducible first | exact HB.out | apply below_alloc | apply pw_below_drewN | apply below_drew1) | exact HB.out)) hb); clear HB; have HB := n0_; clear n0_; (try clear hb); (try clear hb2); (try clear hk); (try clear hi)))
        go_ret
        exact ⟨by first | rfl | (simp [errW_none, errW_some] <;> rfl) | (simp [*, errW_none, errW_some] <;> rfl), by repeat (first | (with_reducible first | exact HB.out | apply below_alloc | apply pw_below_drewN | apply below_drew1) | exact HB.out)⟩

/-- THE ONE PURE STATEMENT of citadellaw01_WordAmos: yours. -/
def citadellaw01_WordAmos.Pure : Prop := ∀ (a0 : Int) (a1 : Int) (a2 : Int), (Lit.int .i64 a0).wf = true → (Lit.int .u64 a1).wf = true → (Lit.int .u64 a2).wf = true → ∃ k, citadellaw01_WordAmos.f k a0 a1 a2 = some true
theorem citadellaw01_WordAmos.walk (P : citadellaw01_WordAmos.Pure) (a0 : Int) (a1 : Int) (a2 : Int) (w : World) (w0 : (Lit.int .i64 a0).wf = true) (w1 : (Lit.int .u64 a1).wf = true) (w2 : (Lit.int .u64 a2).wf = true) :
    Calls Try.prog 5 #[.int .i64 a0, .int .u64 a1, .int .u64 a2] w fun e w' => e = .returned (.bool true) ∧ Below w.heap.size w w' := by
  obtain ⟨k, h⟩ := P a0 a1 a2 w0 w1 w2
  refine (citadellaw01_WordAmos.calls k a0 a1 a2 true w h).mono ?_
  rintro e w' ⟨rfl, hd⟩
  exact ⟨rfl, hd⟩

end Go.Proofs.Ytmfbijfghonnjaa.PA
