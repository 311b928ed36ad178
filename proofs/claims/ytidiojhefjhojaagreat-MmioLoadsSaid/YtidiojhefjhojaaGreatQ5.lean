/- Parts of the walks and laws for the claim: DecA; no conditions beyond the theorems' own. -/
import Derived.Test.YtidiojhefjhojaaGreatQ1
section
namespace Go.Proofs.YtidiojhefjhojaaGreat.Enc
open Go Go.RowKit Go.Proofs.YtidiojhefjhojaaGreat.Step
set_option linter.unusedVariables false
set_option linter.unusedSimpArgs false
set_option maxRecDepth 100000
/-- What an operation of two registers does. -/
def regF (wide : Bool) (s x : Int) : Int :=
  if wide then (if s = 0 then pk ([1, 3, 4, 5, 6, 7, 9, 10] : List Int) x else if s = 32 then pk ([2, 0, 0, 0, 0, 8] : List Int) x else if s = 1 then pk ([11, 12, 13, 14, 15, 16, 17, 18] : List Int) x else 0)
  else (if s = 0 then pk ([19, 21, 0, 0, 0, 22] : List Int) x else if s = 32 then pk ([20, 0, 0, 0, 0, 23] : List Int) x else if s = 1 then pk ([24, 0, 0, 0, 25, 26, 27, 28] : List Int) x else 0)
theorem register_any (a : Int) (ha : W32 a) (wide : Bool) (hop : fd a 6 0 = if wide then 51 else 59) (w : World) :
    Calls Tryz.prog 126 #[.int .u32 a] w fun e w' => e = .returned (.int .i64 (regF wide (fd a 31 25) (fd a 14 12))) ∧ Below w.heap.size w w' := by
  have T0 := Lib.hid (fun w => calls_below (op_any a ha w))
  have T1 := Lib.hid (fun w => calls_below (f7_any a ha w))
  have T2 := Lib.hid (fun w => calls_below (f3_any a ha w))
  have HX := Lib.hid (small (fd_lit (a := a) (h := 14) (l := 12) (n := 8) rfl) (by decide))
  rw [hop] at T0
  clear hop
  generalize fd a 31 25 = s at *
  generalize fd a 14 12 = x at *
  unfold regF
  cases wide with
  | true =>
    simp only [if_true] at T0 ⊢
    by_cases h0 : s = 0
    · rw [if_pos h0]
      go_enter Tryz.func126, Tryz.ntmps126
      have HB := Lib.hid (Below.refl _ _ : Below w.heap.size w w)
      go_wp2_with (first
        | (go_at_call 60; (with_reducible refine (T0.out _).mono ?_); rintro e w' ⟨rfl, hb⟩; (try (have pb_ := Lib.hid (PB.out.below hb); clear PB; have PB := pb_)); have hb_ := Lib.hid (below_below HB.out hb); clear HB hb; have HB := hb_)
        | (go_at_call 117; (with_reducible refine (T1.out _).mono ?_); rintro e w' ⟨rfl, hb⟩; (try (have pb_ := Lib.hid (PB.out.below hb); clear PB; have PB := pb_)); have hb_ := Lib.hid (below_below HB.out hb); clear HB hb; have HB := hb_)
        | (go_at_call 61; (with_reducible refine (T2.out _).mono ?_); rintro e w' ⟨rfl, hb⟩; (try (have pb_ := Lib.hid (PB.out.below hb); clear PB; have PB := pb_)); have hb_ := Lib.hid (below_below HB.out hb); clear HB hb; have HB := hb_)
        | ((with_reducible refine Step.gate_build (t := 174) rfl ?_); refine Step.freshSlice (cs := #[.int .i64 1, .int .i64 3, .int .i64 4, .int .i64 5, .int .i64 6, .int .i64 7, .int .i64 9, .int .i64 10]) (T := 3) (n := 8) (m := 8) rfl ?hr ?_; (case hr => first | (go_simp; done)); intro g1 w1 b hg hb; have PB := Lib.hid (show Blk w1 g1 (Enc.ints ([1, 3, 4, 5, 6, 7, 9, 10] : List Int)) _ from b); have hb_ := Lib.hid (below_below HB.out hb); clear HB b hb hg; have HB := hb_)
        | (go_at_call 118; have pk_ := pick_any (n := 8) PB.out ([1, 3, 4, 5, 6, 7, 9, 10] : List Int) rfl rfl (by decide) x HX.out; (with_reducible refine pk_.mono ?_); clear pk_; rintro e w' ⟨rfl, hb⟩; clear PB; have hb_ := Lib.hid (below_below HB.out hb); clear HB hb; have HB := hb_))
      go_ret
      exact ⟨rfl, HB.out⟩
    rw [if_neg h0]
    by_cases h32 : s = 32
    · rw [if_pos h32]
      go_enter Tryz.func126, Tryz.ntmps126
      have HB := Lib.hid (Below.refl _ _ : Below w.heap.size w w)
      go_wp2_with (first
        | (go_at_call 60; (with_reducible refine (T0.out _).mono ?_); rintro e w' ⟨rfl, hb⟩; (try (have pb_ := Lib.hid (PB.out.below hb); clear PB; have PB := pb_)); have hb_ := Lib.hid (below_below HB.out hb); clear HB hb; have HB := hb_)
        | (go_at_call 117; (with_reducible refine (T1.out _).mono ?_); rintro e w' ⟨rfl, hb⟩; (try (have pb_ := Lib.hid (PB.out.below hb); clear PB; have PB := pb_)); have hb_ := Lib.hid (below_below HB.out hb); clear HB hb; have HB := hb_)
        | (go_at_call 61; (with_reducible refine (T2.out _).mono ?_); rintro e w' ⟨rfl, hb⟩; (try (have pb_ := Lib.hid (PB.out.below hb); clear PB; have PB := pb_)); have hb_ := Lib.hid (below_below HB.out hb); clear HB hb; have HB := hb_)
        | ((with_reducible refine Step.gate_build (t := 174) rfl ?_); refine Step.freshSlice (cs := #[.int .i64 2, .int .i64 0, .int .i64 0, .int .i64 0, .int .i64 0, .int .i64 8]) (T := 3) (n := 6) (m := 6) rfl ?hr ?_; (case hr => first | (go_simp; done)); intro g1 w1 b hg hb; have PB := Lib.hid (show Blk w1 g1 (Enc.ints ([2, 0, 0, 0, 0, 8] : List Int)) _ from b); have hb_ := Lib.hid (below_below HB.out hb); clear HB b hb hg; have HB := hb_)
        | (go_at_call 118; have pk_ := pick_any (n := 6) PB.out ([2, 0, 0, 0, 0, 8] : List Int) rfl rfl (by decide) x HX.out; (with_reducible refine pk_.mono ?_); clear pk_; rintro e w' ⟨rfl, hb⟩; clear PB; have hb_ := Lib.hid (below_below HB.out hb); clear HB hb; have HB := hb_))
      go_ret
      exact ⟨rfl, HB.out⟩
    rw [if_neg h32]
    by_cases h1 : s = 1
    · rw [if_pos h1]
      go_enter Tryz.func126, Tryz.ntmps126
      have HB := Lib.hid (Below.refl _ _ : Below w.heap.size w w)
      go_wp2_with (first
        | (go_at_call 60; (with_reducible refine (T0.out _).mono ?_); rintro e w' ⟨rfl, hb⟩; (try (have pb_ := Lib.hid (PB.out.below hb); clear PB; have PB := pb_)); have hb_ := Lib.hid (below_below HB.out hb); clear HB hb; have HB := hb_)
        | (go_at_call 117; (with_reducible refine (T1.out _).mono ?_); rintro e w' ⟨rfl, hb⟩; (try (have pb_ := Lib.hid (PB.out.below hb); clear PB; have PB := pb_)); have hb_ := Lib.hid (below_below HB.out hb); clear HB hb; have HB := hb_)
        | (go_at_call 61; (with_reducible refine (T2.out _).mono ?_); rintro e w' ⟨rfl, hb⟩; (try (have pb_ := Lib.hid (PB.out.below hb); clear PB; have PB := pb_)); have hb_ := Lib.hid (below_below HB.out hb); clear HB hb; have HB := hb_)
        | ((with_reducible refine Step.gate_build (t := 174) rfl ?_); refine Step.freshSlice (cs := #[.int .i64 11, .int .i64 12, .int .i64 13, .int .i64 14, .int .i64 15, .int .i64 16, .int .i64 17, .int .i64 18]) (T := 3) (n := 8) (m := 8) rfl ?hr ?_; (case hr => first | (go_simp; done)); intro g1 w1 b hg hb; have PB := Lib.hid (show Blk w1 g1 (Enc.ints ([11, 12, 13, 14, 15, 16, 17, 18] : List Int)) _ from b); have hb_ := Lib.hid (below_below HB.out hb); clear HB b hb hg; have HB := hb_)
        | (go_at_call 118; have pk_ := pick_any (n := 8) PB.out ([11, 12, 13, 14, 15, 16, 17, 18] : List Int) rfl rfl (by decide) x HX.out; (with_reducible refine pk_.mono ?_); clear pk_; rintro e w' ⟨rfl, hb⟩; clear PB; have hb_ := Lib.hid (below_below HB.out hb); clear HB hb; have HB := hb_))
      go_ret
      exact ⟨rfl, HB.out⟩
    rw [if_neg h1]
    go_enter Tryz.func126, Tryz.ntmps126
    have HB := Lib.hid (Below.refl _ _ : Below w.heap.size w w)
    go_wp2_with (first
      | (go_at_call 60; (with_reducible refine (T0.out _).mono ?_); rintro e w' ⟨rfl, hb⟩; (try (have pb_ := Lib.hid (PB.out.below hb); clear PB; have PB := pb_)); have hb_ := Lib.hid (below_below HB.out hb); clear HB hb; have HB := hb_)
      | (go_at_call 117; (with_reducible refine (T1.out _).mono ?_); rintro e w' ⟨rfl, hb⟩; (try (have pb_ := Lib.hid (PB.out.below hb); clear PB; have PB := pb_)); have hb_ := Lib.hid (below_below HB.out hb); clear HB hb; have HB := hb_))
    go_ret
    exact ⟨rfl, HB.out⟩
  | false =>
    simp only [Bool.false_eq_true, if_false] at T0 ⊢
    by_cases h0 : s = 0
    · rw [if_pos h0]
      go_enter Tryz.func126, Tryz.ntmps126
      have HB := Lib.hid (Below.refl _ _ : Below w.heap.size w w)
      go_wp2_with (first
        | (go_at_call 60; (with_reducible refine (T0.out _).mono ?_); rintro e w' ⟨rfl, hb⟩; (try (have pb_ := Lib.hid (PB.out.below hb); clear PB; have PB := pb_)); have hb_ := Lib.hid (below_below HB.out hb); clear HB hb; have HB := hb_)
        | (go_at_call 117; (with_reducible refine (T1.out _).mono ?_); rintro e w' ⟨rfl, hb⟩; (try (have pb_ := Lib.hid (PB.out.below hb); clear PB; have PB := pb_)); have hb_ := Lib.hid (below_below HB.out hb); clear HB hb; have HB := hb_)
        | (go_at_call 61; (with_reducible refine (T2.out _).mono ?_); rintro e w' ⟨rfl, hb⟩; (try (have pb_ := Lib.hid (PB.out.below hb); clear PB; have PB := pb_)); have hb_ := Lib.hid (below_below HB.out hb); clear HB hb; have HB := hb_)
        | ((with_reducible refine Step.gate_build (t := 174) rfl ?_); refine Step.freshSlice (cs := #[.int .i64 19, .int .i64 21, .int .i64 0, .int .i64 0, .int .i64 0, .int .i64 22]) (T := 3) (n := 6) (m := 6) rfl ?hr ?_; (case hr => first | (go_simp; done)); intro g1 w1 b hg hb; have PB := Lib.hid (show Blk w1 g1 (Enc.ints ([19, 21, 0, 0, 0, 22] : List Int)) _ from b); have hb_ := Lib.hid (below_below HB.out hb); clear HB b hb hg; have HB := hb_)
        | (go_at_call 118; have pk_ := pick_any (n := 6) PB.out ([19, 21, 0, 0, 0, 22] : List Int) rfl rfl (by decide) x HX.out; (with_reducible refine pk_.mono ?_); clear pk_; rintro e w' ⟨rfl, hb⟩; clear PB; have hb_ := Lib.hid (below_below HB.out hb); clear HB hb; have HB := hb_))
      go_ret
      exact ⟨rfl, HB.out⟩
    rw [if_neg h0]
    by_cases h32 : s = 32
    · rw [if_pos h32]
      go_enter Tryz.func126, Tryz.ntmps126
      have HB := Lib.hid (Below.refl _ _ : Below w.heap.size w w)
      go_wp2_with (first
        | (go_at_call 60; (with_reducible refine (T0.out _).mono ?_); rintro e w' ⟨rfl, hb⟩; (try (have pb_ := Lib.hid (PB.out.below hb); clear PB; have PB := pb_)); have hb_ := Lib.hid (below_below HB.out hb); clear HB hb; have HB := hb_)
        | (go_at_call 117; (with_reducible refine (T1.out _).mono ?_); rintro e w' ⟨rfl, hb⟩; (try (have pb_ := Lib.hid (PB.out.below hb); clear PB; have PB := pb_)); have hb_ := Lib.hid (below_below HB.out hb); clear HB hb; have HB := hb_)
        | (go_at_call 61; (with_reducible refine (T2.out _).mono ?_); rintro e w' ⟨rfl, hb⟩; (try (have pb_ := Lib.hid (PB.out.below hb); clear PB; have PB := pb_)); have hb_ := Lib.hid (below_below HB.out hb); clear HB hb; have HB := hb_)
        | ((with_reducible refine Step.gate_build (t := 174) rfl ?_); refine Step.freshSlice (cs := #[.int .i64 20, .int .i64 0, .int .i64 0, .int .i64 0, .int .i64 0, .int .i64 23]) (T := 3) (n := 6) (m := 6) rfl ?hr ?_; (case hr => first | (go_simp; done)); intro g1 w1 b hg hb; have PB := Lib.hid (show Blk w1 g1 (Enc.ints ([20, 0, 0, 0, 0, 23] : List Int)) _ from b); have hb_ := Lib.hid (below_below HB.out hb); clear HB b hb hg; have HB := hb_)
        | (go_at_call 118; have pk_ := pick_any (n := 6) PB.out ([20, 0, 0, 0, 0, 23] : List Int) rfl rfl (by decide) x HX.out; (with_reducible refine pk_.mono ?_); clear pk_; rintro e w' ⟨rfl, hb⟩; clear PB; have hb_ := Lib.hid (below_below HB.out hb); clear HB hb; have HB := hb_))
      go_ret
      exact ⟨rfl, HB.out⟩
    rw [if_neg h32]
    by_cases h1 : s = 1
    · rw [if_pos h1]
      go_enter Tryz.func126, Tryz.ntmps126
      have HB := Lib.hid (Below.refl _ _ : Below w.heap.size w w)
      go_wp2_with (first
        | (go_at_call 60; (with_reducible refine (T0.out _).mono ?_); rintro e w' ⟨rfl, hb⟩; (try (have pb_ := Lib.hid (PB.out.below hb); clear PB; have PB := pb_)); have hb_ := Lib.hid (below_below HB.out hb); clear HB hb; have HB := hb_)
        | (go_at_call 117; (with_reducible refine (T1.out _).mono ?_); rintro e w' ⟨rfl, hb⟩; (try (have pb_ := Lib.hid (PB.out.below hb); clear PB; have PB := pb_)); have hb_ := Lib.hid (below_below HB.out hb); clear HB hb; have HB := hb_)
        | (go_at_call 61; (with_reducible refine (T2.out _).mono ?_); rintro e w' ⟨rfl, hb⟩; (try (have pb_ := Lib.hid (PB.out.below hb); clear PB; have PB := pb_)); have hb_ := Lib.hid (below_below HB.out hb); clear HB hb; have HB := hb_)
        | ((with_reducible refine Step.gate_build (t := 174) rfl ?_); refine Step.freshSlice (cs := #[.int .i64 24, .int .i64 0, .int .i64 0, .int .i64 0, .int .i64 25, .int .i64 26, .int .i64 27, .int .i64 28]) (T := 3) (n := 8) (m := 8) rfl ?hr ?_; (case hr => first | (go_simp; done)); intro g1 w1 b hg hb; have PB := Lib.hid (show Blk w1 g1 (Enc.ints ([24, 0, 0, 0, 25, 26, 27, 28] : List Int)) _ from b); have hb_ := Lib.hid (below_below HB.out hb); clear HB b hb hg; have HB := hb_)
        | (go_at_call 118; have pk_ := pick_any (n := 8) PB.out ([24, 0, 0, 0, 25, 26, 27, 28] : List Int) rfl rfl (by decide) x HX.out; (with_reducible refine pk_.mono ?_); clear pk_; rintro e w' ⟨rfl, hb⟩; clear PB; have hb_ := Lib.hid (below_below HB.out hb); clear HB hb; have HB := hb_))
      go_ret
      exact ⟨rfl, HB.out⟩
    rw [if_neg h1]
    go_enter Tryz.func126, Tryz.ntmps126
    have HB := Lib.hid (Below.refl _ _ : Below w.heap.size w w)
    go_wp2_with (first
      | (go_at_call 60; (with_reducible refine (T0.out _).mono ?_); rintro e w' ⟨rfl, hb⟩; (try (have pb_ := Lib.hid (PB.out.below hb); clear PB; have PB := pb_)); have hb_ := Lib.hid (below_below HB.out hb); clear HB hb; have HB := hb_)
      | (go_at_call 117; (with_reducible refine (T1.out _).mono ?_); rintro e w' ⟨rfl, hb⟩; (try (have pb_ := Lib.hid (PB.out.below hb); clear PB; have PB := pb_)); have hb_ := Lib.hid (below_below HB.out hb); clear HB hb; have HB := hb_))
    go_ret
    exact ⟨rfl, HB.out⟩
/-- What an operation with an immediate does: the operation, the immediate, whether it is one. -/
def im13 (hi x sh m : Int) : Int × Int × Bool :=
  if x = 1 then (if hi = 0 then (3, sh, true) else (0, m, false))
  else if x = 5 then (if hi = 0 then (7, sh, true) else if hi = 16 then (8, sh, true) else (0, m, false))
  else (pk ([1, 0, 4, 5, 6, 0, 9, 10] : List Int) x, m, true)
def im1b (s x sh m : Int) : Int × Int × Bool :=
  if x = 0 then (19, m, true) else if x = 1 then (if s = 0 then (21, sh, true) else (0, m, false))
  else if x = 5 then (if s = 0 then (22, sh, true) else if s = 32 then (23, sh, true) else (0, m, false)) else (0, m, false)
set_option maxHeartbeats 2000000 in
theorem immediate13 (a rd rs1 m : Int) (ha : W32 a) (hop : fd a 6 0 = 19) (w : World) :
    Calls Tryz.prog 125 #[.int .u32 a, .agg #[.int .i64 9, .int .i64 0, .int .i64 rd, .int .i64 rs1, .int .i64 0, .int .i64 m, .int .i64 0, .bool false]] w fun e w' => e = .returned (.tuple #[.agg #[.int .i64 9, .int .i64 ((im13 (fd a 31 26) (fd a 14 12) (fd a 25 20) m).1), .int .i64 rd, .int .i64 rs1, .int .i64 0, .int .i64 ((im13 (fd a 31 26) (fd a 14 12) (fd a 25 20) m).2.1), .int .i64 0, .bool false], .bool ((im13 (fd a 31 26) (fd a 14 12) (fd a 25 20) m).2.2)]) ∧ Below w.heap.size w w' := by
  have T0 := Lib.hid (fun w => calls_below (op_any a ha w))
  have T2 := Lib.hid (fun w => calls_below (f3_any a ha w))
  have T3 := Lib.hid (fun w => calls_below (bits_any a 31 26 31 26 ha rfl rfl (by decide) (by decide) w))
  have T4 := Lib.hid (fun w => calls_below (bits_any a 25 20 25 20 ha rfl rfl (by decide) (by decide) w))
  have HX := Lib.hid (small (fd_lit (a := a) (h := 14) (l := 12) (n := 8) rfl) (by decide))
  rw [hop] at T0
  clear hop
  generalize fd a 31 26 = hi at *
  generalize fd a 14 12 = x at *
  generalize fd a 25 20 = sh at *
  unfold im13
  by_cases h1 : x = 1
  · rw [if_pos h1]
    by_cases h2 : hi = 0
    · rw [if_pos h2]
      go_enter Tryz.func125, Tryz.ntmps125
      go_wp2_with (first
        | (go_at_call 60; (with_reducible refine (T0.out _).mono ?_); rintro e w' ⟨rfl, hb⟩; (try (have pb_ := Lib.hid (PB.out.below hb); clear PB; have PB := pb_)); have st_ := Lib.hid (ST.out.call hb); clear ST hb; have ST := st_)
        | (go_at_call 61; (with_reducible refine (T2.out _).mono ?_); rintro e w' ⟨rfl, hb⟩; (try (have pb_ := Lib.hid (PB.out.below hb); clear PB; have PB := pb_)); have st_ := Lib.hid (ST.out.call hb); clear ST hb; have ST := st_)
        | (go_at_call 116; (with_reducible refine (T3.out _).mono ?_); rintro e w' ⟨rfl, hb⟩; (try (have pb_ := Lib.hid (PB.out.below hb); clear PB; have PB := pb_)); have st_ := Lib.hid (ST.out.call hb); clear ST hb; have ST := st_)
        | (go_at_call 116; (with_reducible refine (T4.out _).mono ?_); rintro e w' ⟨rfl, hb⟩; (try (have pb_ := Lib.hid (PB.out.below hb); clear PB; have PB := pb_)); have st_ := Lib.hid (ST.out.call hb); clear ST hb; have ST := st_)
        | ((with_reducible refine Step.gate_box (t := 74) rfl ?_); refine Step.fresh (cs := #[.int .i64 9, .int .i64 0, .int .i64 rd, .int .i64 rs1, .int .i64 0, .int .i64 m, .int .i64 0, .bool false]) (T := 74) rfl ?hr ?_; (case hr => first | (go_simp; done)); intro g1 w1 b hg hb; have ST := Lib.hid (S1.made b hg hb); clear b hg hb)
        | ((with_reducible refine Step.gate_alloc (t := 74) rfl ?_); refine Step.freshAlloc rfl rfl (alloc_agg zero_inst) ?_; intro g2 w2 b hg hb; have st_ := Lib.hid (ST.out.more b hg hb); clear ST b hg hb; have ST := st_)
        | ((with_reducible refine Step.gate_store (t := 3) rfl ?_); refine Step.store ST.out.one rfl rfl rfl rfl rfl pl_int rfl rfl ?_; intro w3 nb m; have st_ := Lib.hid (ST.out.set1 nb m); clear ST nb m; have ST := st_)
        | ((with_reducible refine Step.gate_load (t := 74) rfl ?_); refine Step.loadAll ST.out.one rfl rfl rfl Tryz.underlying74 rfl size_inst ?_)
        | ((with_reducible refine Step.gate_store (t := 74) rfl ?_); refine Step.storeAll ST.out.two rfl rfl rfl rfl rfl size_inst rfl rfl ?_; intro w3 nb m; have st_ := Lib.hid (ST.out.set2 nb m); clear ST nb m; have ST := st_))
      refine bodyPost_ret (results_row_tmp rfl _ _ g2 _ _ _ rfl ST.out.two Tryz.underlying74 rfl size_inst) rfl ⟨rfl, ST.out.below⟩
    · rw [if_neg h2]
      go_enter Tryz.func125, Tryz.ntmps125
      go_wp2_with (first
        | (go_at_call 60; (with_reducible refine (T0.out _).mono ?_); rintro e w' ⟨rfl, hb⟩; (try (have pb_ := Lib.hid (PB.out.below hb); clear PB; have PB := pb_)); have st_ := Lib.hid (ST.out.call hb); clear ST hb; have ST := st_)
        | (go_at_call 61; (with_reducible refine (T2.out _).mono ?_); rintro e w' ⟨rfl, hb⟩; (try (have pb_ := Lib.hid (PB.out.below hb); clear PB; have PB := pb_)); have st_ := Lib.hid (ST.out.call hb); clear ST hb; have ST := st_)
        | (go_at_call 116; (with_reducible refine (T3.out _).mono ?_); rintro e w' ⟨rfl, hb⟩; (try (have pb_ := Lib.hid (PB.out.below hb); clear PB; have PB := pb_)); have st_ := Lib.hid (ST.out.call hb); clear ST hb; have ST := st_)
        | ((with_reducible refine Step.gate_box (t := 74) rfl ?_); refine Step.fresh (cs := #[.int .i64 9, .int .i64 0, .int .i64 rd, .int .i64 rs1, .int .i64 0, .int .i64 m, .int .i64 0, .bool false]) (T := 74) rfl ?hr ?_; (case hr => first | (go_simp; done)); intro g1 w1 b hg hb; have ST := Lib.hid (S1.made b hg hb); clear b hg hb)
        | ((with_reducible refine Step.gate_alloc (t := 74) rfl ?_); refine Step.freshAlloc rfl rfl (alloc_agg zero_inst) ?_; intro g2 w2 b hg hb; have st_ := Lib.hid (ST.out.more b hg hb); clear ST b hg hb; have ST := st_)
        | ((with_reducible refine Step.gate_load (t := 74) rfl ?_); refine Step.loadAll ST.out.one rfl rfl rfl Tryz.underlying74 rfl size_inst ?_)
        | ((with_reducible refine Step.gate_store (t := 74) rfl ?_); refine Step.storeAll ST.out.two rfl rfl rfl rfl rfl size_inst rfl rfl ?_; intro w3 nb m; have st_ := Lib.hid (ST.out.set2 nb m); clear ST nb m; have ST := st_))
      refine bodyPost_ret (results_row_tmp rfl _ _ g2 _ _ _ rfl ST.out.two Tryz.underlying74 rfl size_inst) rfl ⟨rfl, ST.out.below⟩
  · rw [if_neg h1]
    by_cases h5 : x = 5
    · rw [if_pos h5]
      by_cases h2 : hi = 0
      · rw [if_pos h2]
        go_enter Tryz.func125, Tryz.ntmps125
        go_wp2_with (first
          | (go_at_call 60; (with_reducible refine (T0.out _).mono ?_); rintro e w' ⟨rfl, hb⟩; (try (have pb_ := Lib.hid (PB.out.below hb); clear PB; have PB := pb_)); have st_ := Lib.hid (ST.out.call hb); clear ST hb; have ST := st_)
          | (go_at_call 61; (with_reducible refine (T2.out _).mono ?_); rintro e w' ⟨rfl, hb⟩; (try (have pb_ := Lib.hid (PB.out.below hb); clear PB; have PB := pb_)); have st_ := Lib.hid (ST.out.call hb); clear ST hb; have ST := st_)
          | (go_at_call 116; (with_reducible refine (T3.out _).mono ?_); rintro e w' ⟨rfl, hb⟩; (try (have pb_ := Lib.hid (PB.out.below hb); clear PB; have PB := pb_)); have st_ := Lib.hid (ST.out.call hb); clear ST hb; have ST := st_)
          | (go_at_call 116; (with_reducible refine (T4.out _).mono ?_); rintro e w' ⟨rfl, hb⟩; (try (have pb_ := Lib.hid (PB.out.below hb); clear PB; have PB := pb_)); have st_ := Lib.hid (ST.out.call hb); clear ST hb; have ST := st_)
          | ((with_reducible refine Step.gate_box (t := 74) rfl ?_); refine Step.fresh (cs := #[.int .i64 9, .int .i64 0, .int .i64 rd, .int .i64 rs1, .int .i64 0, .int .i64 m, .int .i64 0, .bool false]) (T := 74) rfl ?hr ?_; (case hr => first | (go_simp; done)); intro g1 w1 b hg hb; have ST := Lib.hid (S1.made b hg hb); clear b hg hb)
          | ((with_reducible refine Step.gate_alloc (t := 74) rfl ?_); refine Step.freshAlloc rfl rfl (alloc_agg zero_inst) ?_; intro g2 w2 b hg hb; have st_ := Lib.hid (ST.out.more b hg hb); clear ST b hg hb; have ST := st_)
          | ((with_reducible refine Step.gate_store (t := 3) rfl ?_); refine Step.store ST.out.one rfl rfl rfl rfl rfl pl_int rfl rfl ?_; intro w3 nb m; have st_ := Lib.hid (ST.out.set1 nb m); clear ST nb m; have ST := st_)
          | ((with_reducible refine Step.gate_load (t := 74) rfl ?_); refine Step.loadAll ST.out.one rfl rfl rfl Tryz.underlying74 rfl size_inst ?_)
          | ((with_reducible refine Step.gate_store (t := 74) rfl ?_); refine Step.storeAll ST.out.two rfl rfl rfl rfl rfl size_inst rfl rfl ?_; intro w3 nb m; have st_ := Lib.hid (ST.out.set2 nb m); clear ST nb m; have ST := st_))
        refine bodyPost_ret (results_row_tmp rfl _ _ g2 _ _ _ rfl ST.out.two Tryz.underlying74 rfl size_inst) rfl ⟨rfl, ST.out.below⟩
      · rw [if_neg h2]
        by_cases h3 : hi = 16
        · rw [if_pos h3]
          go_enter Tryz.func125, Tryz.ntmps125
          go_wp2_with (first
            | (go_at_call 60; (with_reducible refine (T0.out _).mono ?_); rintro e w' ⟨rfl, hb⟩; (try (have pb_ := Lib.hid (PB.out.below hb); clear PB; have PB := pb_)); have st_ := Lib.hid (ST.out.call hb); clear ST hb; have ST := st_)
            | (go_at_call 61; (with_reducible refine (T2.out _).mono ?_); rintro e w' ⟨rfl, hb⟩; (try (have pb_ := Lib.hid (PB.out.below hb); clear PB; have PB := pb_)); have st_ := Lib.hid (ST.out.call hb); clear ST hb; have ST := st_)
            | (go_at_call 116; (with_reducible refine (T3.out _).mono ?_); rintro e w' ⟨rfl, hb⟩; (try (have pb_ := Lib.hid (PB.out.below hb); clear PB; have PB := pb_)); have st_ := Lib.hid (ST.out.call hb); clear ST hb; have ST := st_)
            | (go_at_call 116; (with_reducible refine (T4.out _).mono ?_); rintro e w' ⟨rfl, hb⟩; (try (have pb_ := Lib.hid (PB.out.below hb); clear PB; have PB := pb_)); have st_ := Lib.hid (ST.out.call hb); clear ST hb; have ST := st_)
            | ((with_reducible refine Step.gate_box (t := 74) rfl ?_); refine Step.fresh (cs := #[.int .i64 9, .int .i64 0, .int .i64 rd, .int .i64 rs1, .int .i64 0, .int .i64 m, .int .i64 0, .bool false]) (T := 74) rfl ?hr ?_; (case hr => first | (go_simp; done)); intro g1 w1 b hg hb; have ST := Lib.hid (S1.made b hg hb); clear b hg hb)
            | ((with_reducible refine Step.gate_alloc (t := 74) rfl ?_); refine Step.freshAlloc rfl rfl (alloc_agg zero_inst) ?_; intro g2 w2 b hg hb; have st_ := Lib.hid (ST.out.more b hg hb); clear ST b hg hb; have ST := st_)
            | ((with_reducible refine Step.gate_store (t := 3) rfl ?_); refine Step.store ST.out.one rfl rfl rfl rfl rfl pl_int rfl rfl ?_; intro w3 nb m; have st_ := Lib.hid (ST.out.set1 nb m); clear ST nb m; have ST := st_)
            | ((with_reducible refine Step.gate_load (t := 74) rfl ?_); refine Step.loadAll ST.out.one rfl rfl rfl Tryz.underlying74 rfl size_inst ?_)
            | ((with_reducible refine Step.gate_store (t := 74) rfl ?_); refine Step.storeAll ST.out.two rfl rfl rfl rfl rfl size_inst rfl rfl ?_; intro w3 nb m; have st_ := Lib.hid (ST.out.set2 nb m); clear ST nb m; have ST := st_))
          refine bodyPost_ret (results_row_tmp rfl _ _ g2 _ _ _ rfl ST.out.two Tryz.underlying74 rfl size_inst) rfl ⟨rfl, ST.out.below⟩
        · rw [if_neg h3]
          go_enter Tryz.func125, Tryz.ntmps125
          go_wp2_with (first
            | (go_at_call 60; (with_reducible refine (T0.out _).mono ?_); rintro e w' ⟨rfl, hb⟩; (try (have pb_ := Lib.hid (PB.out.below hb); clear PB; have PB := pb_)); have st_ := Lib.hid (ST.out.call hb); clear ST hb; have ST := st_)
            | (go_at_call 61; (with_reducible refine (T2.out _).mono ?_); rintro e w' ⟨rfl, hb⟩; (try (have pb_ := Lib.hid (PB.out.below hb); clear PB; have PB := pb_)); have st_ := Lib.hid (ST.out.call hb); clear ST hb; have ST := st_)
            | (go_at_call 116; (with_reducible refine (T3.out _).mono ?_); rintro e w' ⟨rfl, hb⟩; (try (have pb_ := Lib.hid (PB.out.below hb); clear PB; have PB := pb_)); have st_ := Lib.hid (ST.out.call hb); clear ST hb; have ST := st_)
            | ((with_reducible refine Step.gate_box (t := 74) rfl ?_); refine Step.fresh (cs := #[.int .i64 9, .int .i64 0, .int .i64 rd, .int .i64 rs1, .int .i64 0, .int .i64 m, .int .i64 0, .bool false]) (T := 74) rfl ?hr ?_; (case hr => first | (go_simp; done)); intro g1 w1 b hg hb; have ST := Lib.hid (S1.made b hg hb); clear b hg hb)
            | ((with_reducible refine Step.gate_alloc (t := 74) rfl ?_); refine Step.freshAlloc rfl rfl (alloc_agg zero_inst) ?_; intro g2 w2 b hg hb; have st_ := Lib.hid (ST.out.more b hg hb); clear ST b hg hb; have ST := st_)
            | ((with_reducible refine Step.gate_load (t := 74) rfl ?_); refine Step.loadAll ST.out.one rfl rfl rfl Tryz.underlying74 rfl size_inst ?_)
            | ((with_reducible refine Step.gate_store (t := 74) rfl ?_); refine Step.storeAll ST.out.two rfl rfl rfl rfl rfl size_inst rfl rfl ?_; intro w3 nb m; have st_ := Lib.hid (ST.out.set2 nb m); clear ST nb m; have ST := st_))
          refine bodyPost_ret (results_row_tmp rfl _ _ g2 _ _ _ rfl ST.out.two Tryz.underlying74 rfl size_inst) rfl ⟨rfl, ST.out.below⟩
    · rw [if_neg h5]
      have c1 : (x != 1) = true := bne_iff_ne.2 h1
      have c5 : (x != 5) = true := bne_iff_ne.2 h5
      go_enter Tryz.func125, Tryz.ntmps125
      go_wp2_with (first
        | (go_at_call 60; (with_reducible refine (T0.out _).mono ?_); rintro e w' ⟨rfl, hb⟩; (try (have pb_ := Lib.hid (PB.out.below hb); clear PB; have PB := pb_)); have st_ := Lib.hid (ST.out.call hb); clear ST hb; have ST := st_)
        | (go_at_call 61; (with_reducible refine (T2.out _).mono ?_); rintro e w' ⟨rfl, hb⟩; (try (have pb_ := Lib.hid (PB.out.below hb); clear PB; have PB := pb_)); have st_ := Lib.hid (ST.out.call hb); clear ST hb; have ST := st_)
        | (go_at_call 116; (with_reducible refine (T3.out _).mono ?_); rintro e w' ⟨rfl, hb⟩; (try (have pb_ := Lib.hid (PB.out.below hb); clear PB; have PB := pb_)); have st_ := Lib.hid (ST.out.call hb); clear ST hb; have ST := st_)
        | ((with_reducible refine Step.gate_box (t := 74) rfl ?_); refine Step.fresh (cs := #[.int .i64 9, .int .i64 0, .int .i64 rd, .int .i64 rs1, .int .i64 0, .int .i64 m, .int .i64 0, .bool false]) (T := 74) rfl ?hr ?_; (case hr => first | (go_simp; done)); intro g1 w1 b hg hb; have ST := Lib.hid (S1.made b hg hb); clear b hg hb)
        | ((with_reducible refine Step.gate_alloc (t := 74) rfl ?_); refine Step.freshAlloc rfl rfl (alloc_agg zero_inst) ?_; intro g2 w2 b hg hb; have st_ := Lib.hid (ST.out.more b hg hb); clear ST b hg hb; have ST := st_)
        | ((with_reducible refine Step.gate_store (t := 3) rfl ?_); refine Step.store ST.out.one rfl rfl rfl rfl rfl pl_int rfl rfl ?_; intro w3 nb m; have st_ := Lib.hid (ST.out.set1 nb m); clear ST nb m; have ST := st_)
        | ((with_reducible refine Step.gate_load (t := 74) rfl ?_); refine Step.loadAll ST.out.one rfl rfl rfl Tryz.underlying74 rfl size_inst ?_)
        | ((with_reducible refine Step.gate_store (t := 74) rfl ?_); refine Step.storeAll ST.out.two rfl rfl rfl rfl rfl size_inst rfl rfl ?_; intro w3 nb m; have st_ := Lib.hid (ST.out.set2 nb m); clear ST nb m; have ST := st_)
        | ((with_reducible refine Step.gate_build (t := 174) rfl ?_); refine Step.freshSlice (cs := #[.int .i64 1, .int .i64 0, .int .i64 4, .int .i64 5, .int .i64 6, .int .i64 0, .int .i64 9, .int .i64 10]) (T := 3) (n := 8) (m := 8) rfl ?hr ?_; (case hr => first | (go_simp; done)); intro g9 w1 b hg hb; have PB := Lib.hid (show Blk w1 g9 (Enc.ints ([1, 0, 4, 5, 6, 0, 9, 10] : List Int)) _ from b); have st_ := Lib.hid (ST.out.call hb); clear ST b hb hg; have ST := st_)
        | (go_at_call 118; have pk_ := pick_any (n := 8) PB.out ([1, 0, 4, 5, 6, 0, 9, 10] : List Int) rfl rfl (by decide) x HX.out; (with_reducible refine pk_.mono ?_); clear pk_; rintro e w' ⟨rfl, hb⟩; clear PB; have st_ := Lib.hid (ST.out.call hb); clear ST hb; have ST := st_))
      refine bodyPost_ret (results_row_tmp rfl _ _ g2 _ _ _ rfl ST.out.two Tryz.underlying74 rfl size_inst) rfl ⟨rfl, ST.out.below⟩
theorem odd_i64 (s : Int) (h : 0 ≤ s ∧ s < 128) : bits .and .i64 s 1 = s % 2 := i64_mask 1 ⟨h.1, by omega⟩ (by decide)
set_option maxHeartbeats 2000000 in
theorem immediate1b (a rd rs1 m : Int) (ha : W32 a) (hop : fd a 6 0 = 27) (w : World) :
    Calls Tryz.prog 125 #[.int .u32 a, .agg #[.int .i64 9, .int .i64 0, .int .i64 rd, .int .i64 rs1, .int .i64 0, .int .i64 m, .int .i64 0, .bool false]] w fun e w' => e = .returned (.tuple #[.agg #[.int .i64 9, .int .i64 ((im1b (fd a 31 25) (fd a 14 12) (fd a 24 20) m).1), .int .i64 rd, .int .i64 rs1, .int .i64 0, .int .i64 ((im1b (fd a 31 25) (fd a 14 12) (fd a 24 20) m).2.1), .int .i64 0, .bool false], .bool ((im1b (fd a 31 25) (fd a 14 12) (fd a 24 20) m).2.2)]) ∧ Below w.heap.size w w' := by
  have T0 := Lib.hid (fun w => calls_below (op_any a ha w))
  have T1 := Lib.hid (fun w => calls_below (f7_any a ha w))
  have T2 := Lib.hid (fun w => calls_below (f3_any a ha w))
  have T3 := Lib.hid (fun w => calls_below (bits_any a 31 26 31 26 ha rfl rfl (by decide) (by decide) w))
  have T4 := Lib.hid (fun w => calls_below (bits_any a 24 20 24 20 ha rfl rfl (by decide) (by decide) w))
  have bs := fd_lit (a := a) (h := 31) (l := 25) (n := 128) rfl
  rw [hop] at T0
  clear hop
  generalize fd a 31 25 = s at *
  generalize fd a 31 26 = hi at *
  generalize fd a 14 12 = x at *
  generalize fd a 24 20 = sh at *
  have ho := odd_i64 s bs
  obtain ⟨q, hq⟩ : ∃ q, s / 2 = q := ⟨_, rfl⟩
  unfold im1b
  by_cases h0 : x = 0
  · rw [if_pos h0]
    by_cases hp : s % 2 = 1
    · have ho' : bits .and .i64 s 1 = 1 := ho.trans hp
      clear ho hp bs
      go_enter Tryz.func125, Tryz.ntmps125
      go_wp2_with (first
        | (go_at_call 60; (with_reducible refine (T0.out _).mono ?_); rintro e w' ⟨rfl, hb⟩; (try (have pb_ := Lib.hid (PB.out.below hb); clear PB; have PB := pb_)); have st_ := Lib.hid (ST.out.call hb); clear ST hb; have ST := st_)
        | (go_at_call 117; (with_reducible refine (T1.out _).mono ?_); rintro e w' ⟨rfl, hb⟩; (try (have pb_ := Lib.hid (PB.out.below hb); clear PB; have PB := pb_)); have st_ := Lib.hid (ST.out.call hb); clear ST hb; have ST := st_)
        | (go_at_call 61; (with_reducible refine (T2.out _).mono ?_); rintro e w' ⟨rfl, hb⟩; (try (have pb_ := Lib.hid (PB.out.below hb); clear PB; have PB := pb_)); have st_ := Lib.hid (ST.out.call hb); clear ST hb; have ST := st_)
        | (go_at_call 116; (with_reducible refine (T3.out _).mono ?_); rintro e w' ⟨rfl, hb⟩; (try (have pb_ := Lib.hid (PB.out.below hb); clear PB; have PB := pb_)); have st_ := Lib.hid (ST.out.call hb); clear ST hb; have ST := st_)
        | ((with_reducible refine Step.gate_box (t := 74) rfl ?_); refine Step.fresh (cs := #[.int .i64 9, .int .i64 0, .int .i64 rd, .int .i64 rs1, .int .i64 0, .int .i64 m, .int .i64 0, .bool false]) (T := 74) rfl ?hr ?_; (case hr => first | (go_simp; done)); intro g1 w1 b hg hb; have ST := Lib.hid (S1.made b hg hb); clear b hg hb)
        | ((with_reducible refine Step.gate_alloc (t := 74) rfl ?_); refine Step.freshAlloc rfl rfl (alloc_agg zero_inst) ?_; intro g2 w2 b hg hb; have st_ := Lib.hid (ST.out.more b hg hb); clear ST b hg hb; have ST := st_)
        | ((with_reducible refine Step.gate_store (t := 3) rfl ?_); refine Step.store ST.out.one rfl rfl rfl rfl rfl pl_int rfl rfl ?_; intro w3 nb m; have st_ := Lib.hid (ST.out.set1 nb m); clear ST nb m; have ST := st_)
        | ((with_reducible refine Step.gate_load (t := 74) rfl ?_); refine Step.loadAll ST.out.one rfl rfl rfl Tryz.underlying74 rfl size_inst ?_)
        | ((with_reducible refine Step.gate_store (t := 74) rfl ?_); refine Step.storeAll ST.out.two rfl rfl rfl rfl rfl size_inst rfl rfl ?_; intro w3 nb m; have st_ := Lib.hid (ST.out.set2 nb m); clear ST nb m; have ST := st_))
      refine bodyPost_ret (results_row_tmp rfl _ _ g2 _ _ _ rfl ST.out.two Tryz.underlying74 rfl size_inst) rfl ⟨rfl, ST.out.below⟩
    · have ho' : bits .and .i64 s 1 = 0 := by omega
      clear ho hp bs
      go_enter Tryz.func125, Tryz.ntmps125
      go_wp2_with (first
        | (go_at_call 60; (with_reducible refine (T0.out _).mono ?_); rintro e w' ⟨rfl, hb⟩; (try (have pb_ := Lib.hid (PB.out.below hb); clear PB; have PB := pb_)); have st_ := Lib.hid (ST.out.call hb); clear ST hb; have ST := st_)
        | (go_at_call 117; (with_reducible refine (T1.out _).mono ?_); rintro e w' ⟨rfl, hb⟩; (try (have pb_ := Lib.hid (PB.out.below hb); clear PB; have PB := pb_)); have st_ := Lib.hid (ST.out.call hb); clear ST hb; have ST := st_)
        | (go_at_call 61; (with_reducible refine (T2.out _).mono ?_); rintro e w' ⟨rfl, hb⟩; (try (have pb_ := Lib.hid (PB.out.below hb); clear PB; have PB := pb_)); have st_ := Lib.hid (ST.out.call hb); clear ST hb; have ST := st_)
        | (go_at_call 116; (with_reducible refine (T3.out _).mono ?_); rintro e w' ⟨rfl, hb⟩; (try (have pb_ := Lib.hid (PB.out.below hb); clear PB; have PB := pb_)); have st_ := Lib.hid (ST.out.call hb); clear ST hb; have ST := st_)
        | ((with_reducible refine Step.gate_box (t := 74) rfl ?_); refine Step.fresh (cs := #[.int .i64 9, .int .i64 0, .int .i64 rd, .int .i64 rs1, .int .i64 0, .int .i64 m, .int .i64 0, .bool false]) (T := 74) rfl ?hr ?_; (case hr => first | (go_simp; done)); intro g1 w1 b hg hb; have ST := Lib.hid (S1.made b hg hb); clear b hg hb)
        | ((with_reducible refine Step.gate_alloc (t := 74) rfl ?_); refine Step.freshAlloc rfl rfl (alloc_agg zero_inst) ?_; intro g2 w2 b hg hb; have st_ := Lib.hid (ST.out.more b hg hb); clear ST b hg hb; have ST := st_)
        | ((with_reducible refine Step.gate_store (t := 3) rfl ?_); refine Step.store ST.out.one rfl rfl rfl rfl rfl pl_int rfl rfl ?_; intro w3 nb m; have st_ := Lib.hid (ST.out.set1 nb m); clear ST nb m; have ST := st_)
        | ((with_reducible refine Step.gate_load (t := 74) rfl ?_); refine Step.loadAll ST.out.one rfl rfl rfl Tryz.underlying74 rfl size_inst ?_)
        | ((with_reducible refine Step.gate_store (t := 74) rfl ?_); refine Step.storeAll ST.out.two rfl rfl rfl rfl rfl size_inst rfl rfl ?_; intro w3 nb m; have st_ := Lib.hid (ST.out.set2 nb m); clear ST nb m; have ST := st_))
      refine bodyPost_ret (results_row_tmp rfl _ _ g2 _ _ _ rfl ST.out.two Tryz.underlying74 rfl size_inst) rfl ⟨rfl, ST.out.below⟩
  rw [if_neg h0]
  by_cases h1 : x = 1
  · rw [if_pos h1]
    by_cases h2 : s = 0
    · rw [if_pos h2]
      have ho' : bits .and .i64 s 1 = 0 := by omega
      have hq0 : q = 0 := by omega
      clear ho bs
      go_enter Tryz.func125, Tryz.ntmps125
      go_wp2_with (first
        | (go_at_call 60; (with_reducible refine (T0.out _).mono ?_); rintro e w' ⟨rfl, hb⟩; (try (have pb_ := Lib.hid (PB.out.below hb); clear PB; have PB := pb_)); have st_ := Lib.hid (ST.out.call hb); clear ST hb; have ST := st_)
        | (go_at_call 117; (with_reducible refine (T1.out _).mono ?_); rintro e w' ⟨rfl, hb⟩; (try (have pb_ := Lib.hid (PB.out.below hb); clear PB; have PB := pb_)); have st_ := Lib.hid (ST.out.call hb); clear ST hb; have ST := st_)
        | (go_at_call 61; (with_reducible refine (T2.out _).mono ?_); rintro e w' ⟨rfl, hb⟩; (try (have pb_ := Lib.hid (PB.out.below hb); clear PB; have PB := pb_)); have st_ := Lib.hid (ST.out.call hb); clear ST hb; have ST := st_)
        | (go_at_call 116; (with_reducible refine (T3.out _).mono ?_); rintro e w' ⟨rfl, hb⟩; (try (have pb_ := Lib.hid (PB.out.below hb); clear PB; have PB := pb_)); have st_ := Lib.hid (ST.out.call hb); clear ST hb; have ST := st_)
        | (go_at_call 116; (with_reducible refine (T4.out _).mono ?_); rintro e w' ⟨rfl, hb⟩; (try (have pb_ := Lib.hid (PB.out.below hb); clear PB; have PB := pb_)); have st_ := Lib.hid (ST.out.call hb); clear ST hb; have ST := st_)
        | ((with_reducible refine Step.gate_box (t := 74) rfl ?_); refine Step.fresh (cs := #[.int .i64 9, .int .i64 0, .int .i64 rd, .int .i64 rs1, .int .i64 0, .int .i64 m, .int .i64 0, .bool false]) (T := 74) rfl ?hr ?_; (case hr => first | (go_simp; done)); intro g1 w1 b hg hb; have ST := Lib.hid (S1.made b hg hb); clear b hg hb)
        | ((with_reducible refine Step.gate_alloc (t := 74) rfl ?_); refine Step.freshAlloc rfl rfl (alloc_agg zero_inst) ?_; intro g2 w2 b hg hb; have st_ := Lib.hid (ST.out.more b hg hb); clear ST b hg hb; have ST := st_)
        | ((with_reducible refine Step.gate_store (t := 3) rfl ?_); refine Step.store ST.out.one rfl rfl rfl rfl rfl pl_int rfl rfl ?_; intro w3 nb m; have st_ := Lib.hid (ST.out.set1 nb m); clear ST nb m; have ST := st_)
        | ((with_reducible refine Step.gate_load (t := 74) rfl ?_); refine Step.loadAll ST.out.one rfl rfl rfl Tryz.underlying74 rfl size_inst ?_)
        | ((with_reducible refine Step.gate_store (t := 74) rfl ?_); refine Step.storeAll ST.out.two rfl rfl rfl rfl rfl size_inst rfl rfl ?_; intro w3 nb m; have st_ := Lib.hid (ST.out.set2 nb m); clear ST nb m; have ST := st_))
      refine bodyPost_ret (results_row_tmp rfl _ _ g2 _ _ _ rfl ST.out.two Tryz.underlying74 rfl size_inst) rfl ⟨rfl, ST.out.below⟩
    · rw [if_neg h2]
      by_cases h3 : s = 32
      · have hq0 : q = 16 := by omega
        have ho' : bits .and .i64 s 1 = 0 := by omega
        clear ho bs
        go_enter Tryz.func125, Tryz.ntmps125
        go_wp2_with (first
          | (go_at_call 60; (with_reducible refine (T0.out _).mono ?_); rintro e w' ⟨rfl, hb⟩; (try (have pb_ := Lib.hid (PB.out.below hb); clear PB; have PB := pb_)); have st_ := Lib.hid (ST.out.call hb); clear ST hb; have ST := st_)
          | (go_at_call 117; (with_reducible refine (T1.out _).mono ?_); rintro e w' ⟨rfl, hb⟩; (try (have pb_ := Lib.hid (PB.out.below hb); clear PB; have PB := pb_)); have st_ := Lib.hid (ST.out.call hb); clear ST hb; have ST := st_)
          | (go_at_call 61; (with_reducible refine (T2.out _).mono ?_); rintro e w' ⟨rfl, hb⟩; (try (have pb_ := Lib.hid (PB.out.below hb); clear PB; have PB := pb_)); have st_ := Lib.hid (ST.out.call hb); clear ST hb; have ST := st_)
          | (go_at_call 116; (with_reducible refine (T3.out _).mono ?_); rintro e w' ⟨rfl, hb⟩; (try (have pb_ := Lib.hid (PB.out.below hb); clear PB; have PB := pb_)); have st_ := Lib.hid (ST.out.call hb); clear ST hb; have ST := st_)
          | ((with_reducible refine Step.gate_box (t := 74) rfl ?_); refine Step.fresh (cs := #[.int .i64 9, .int .i64 0, .int .i64 rd, .int .i64 rs1, .int .i64 0, .int .i64 m, .int .i64 0, .bool false]) (T := 74) rfl ?hr ?_; (case hr => first | (go_simp; done)); intro g1 w1 b hg hb; have ST := Lib.hid (S1.made b hg hb); clear b hg hb)
          | ((with_reducible refine Step.gate_alloc (t := 74) rfl ?_); refine Step.freshAlloc rfl rfl (alloc_agg zero_inst) ?_; intro g2 w2 b hg hb; have st_ := Lib.hid (ST.out.more b hg hb); clear ST b hg hb; have ST := st_)
          | ((with_reducible refine Step.gate_load (t := 74) rfl ?_); refine Step.loadAll ST.out.one rfl rfl rfl Tryz.underlying74 rfl size_inst ?_)
          | ((with_reducible refine Step.gate_store (t := 74) rfl ?_); refine Step.storeAll ST.out.two rfl rfl rfl rfl rfl size_inst rfl rfl ?_; intro w3 nb m; have st_ := Lib.hid (ST.out.set2 nb m); clear ST nb m; have ST := st_))
        refine bodyPost_ret (results_row_tmp rfl _ _ g2 _ _ _ rfl ST.out.two Tryz.underlying74 rfl size_inst) rfl ⟨rfl, ST.out.below⟩
      by_cases hp : s % 2 = 1
      · have ho' : bits .and .i64 s 1 = 1 := ho.trans hp
        clear ho hp bs
        go_enter Tryz.func125, Tryz.ntmps125
        go_wp2_with (first
          | (go_at_call 60; (with_reducible refine (T0.out _).mono ?_); rintro e w' ⟨rfl, hb⟩; (try (have pb_ := Lib.hid (PB.out.below hb); clear PB; have PB := pb_)); have st_ := Lib.hid (ST.out.call hb); clear ST hb; have ST := st_)
          | (go_at_call 117; (with_reducible refine (T1.out _).mono ?_); rintro e w' ⟨rfl, hb⟩; (try (have pb_ := Lib.hid (PB.out.below hb); clear PB; have PB := pb_)); have st_ := Lib.hid (ST.out.call hb); clear ST hb; have ST := st_)
          | (go_at_call 61; (with_reducible refine (T2.out _).mono ?_); rintro e w' ⟨rfl, hb⟩; (try (have pb_ := Lib.hid (PB.out.below hb); clear PB; have PB := pb_)); have st_ := Lib.hid (ST.out.call hb); clear ST hb; have ST := st_)
          | (go_at_call 116; (with_reducible refine (T3.out _).mono ?_); rintro e w' ⟨rfl, hb⟩; (try (have pb_ := Lib.hid (PB.out.below hb); clear PB; have PB := pb_)); have st_ := Lib.hid (ST.out.call hb); clear ST hb; have ST := st_)
          | ((with_reducible refine Step.gate_box (t := 74) rfl ?_); refine Step.fresh (cs := #[.int .i64 9, .int .i64 0, .int .i64 rd, .int .i64 rs1, .int .i64 0, .int .i64 m, .int .i64 0, .bool false]) (T := 74) rfl ?hr ?_; (case hr => first | (go_simp; done)); intro g1 w1 b hg hb; have ST := Lib.hid (S1.made b hg hb); clear b hg hb)
          | ((with_reducible refine Step.gate_alloc (t := 74) rfl ?_); refine Step.freshAlloc rfl rfl (alloc_agg zero_inst) ?_; intro g2 w2 b hg hb; have st_ := Lib.hid (ST.out.more b hg hb); clear ST b hg hb; have ST := st_)
          | ((with_reducible refine Step.gate_load (t := 74) rfl ?_); refine Step.loadAll ST.out.one rfl rfl rfl Tryz.underlying74 rfl size_inst ?_)
          | ((with_reducible refine Step.gate_store (t := 74) rfl ?_); refine Step.storeAll ST.out.two rfl rfl rfl rfl rfl size_inst rfl rfl ?_; intro w3 nb m; have st_ := Lib.hid (ST.out.set2 nb m); clear ST nb m; have ST := st_))
        refine bodyPost_ret (results_row_tmp rfl _ _ g2 _ _ _ rfl ST.out.two Tryz.underlying74 rfl size_inst) rfl ⟨rfl, ST.out.below⟩
      · have ho' : bits .and .i64 s 1 = 0 := by omega
        have hq0 : ¬ q = 0 := by omega
        have hq1 : ¬ q = 16 := by omega
        clear ho hp bs
        go_enter Tryz.func125, Tryz.ntmps125
        go_wp2_with (first
          | (go_at_call 60; (with_reducible refine (T0.out _).mono ?_); rintro e w' ⟨rfl, hb⟩; (try (have pb_ := Lib.hid (PB.out.below hb); clear PB; have PB := pb_)); have st_ := Lib.hid (ST.out.call hb); clear ST hb; have ST := st_)
          | (go_at_call 117; (with_reducible refine (T1.out _).mono ?_); rintro e w' ⟨rfl, hb⟩; (try (have pb_ := Lib.hid (PB.out.below hb); clear PB; have PB := pb_)); have st_ := Lib.hid (ST.out.call hb); clear ST hb; have ST := st_)
          | (go_at_call 61; (with_reducible refine (T2.out _).mono ?_); rintro e w' ⟨rfl, hb⟩; (try (have pb_ := Lib.hid (PB.out.below hb); clear PB; have PB := pb_)); have st_ := Lib.hid (ST.out.call hb); clear ST hb; have ST := st_)
          | (go_at_call 116; (with_reducible refine (T3.out _).mono ?_); rintro e w' ⟨rfl, hb⟩; (try (have pb_ := Lib.hid (PB.out.below hb); clear PB; have PB := pb_)); have st_ := Lib.hid (ST.out.call hb); clear ST hb; have ST := st_)
          | ((with_reducible refine Step.gate_box (t := 74) rfl ?_); refine Step.fresh (cs := #[.int .i64 9, .int .i64 0, .int .i64 rd, .int .i64 rs1, .int .i64 0, .int .i64 m, .int .i64 0, .bool false]) (T := 74) rfl ?hr ?_; (case hr => first | (go_simp; done)); intro g1 w1 b hg hb; have ST := Lib.hid (S1.made b hg hb); clear b hg hb)
          | ((with_reducible refine Step.gate_alloc (t := 74) rfl ?_); refine Step.freshAlloc rfl rfl (alloc_agg zero_inst) ?_; intro g2 w2 b hg hb; have st_ := Lib.hid (ST.out.more b hg hb); clear ST b hg hb; have ST := st_)
          | ((with_reducible refine Step.gate_load (t := 74) rfl ?_); refine Step.loadAll ST.out.one rfl rfl rfl Tryz.underlying74 rfl size_inst ?_)
          | ((with_reducible refine Step.gate_store (t := 74) rfl ?_); refine Step.storeAll ST.out.two rfl rfl rfl rfl rfl size_inst rfl rfl ?_; intro w3 nb m; have st_ := Lib.hid (ST.out.set2 nb m); clear ST nb m; have ST := st_))
        refine bodyPost_ret (results_row_tmp rfl _ _ g2 _ _ _ rfl ST.out.two Tryz.underlying74 rfl size_inst) rfl ⟨rfl, ST.out.below⟩
  rw [if_neg h1]
  by_cases h5 : x = 5
  · rw [if_pos h5]
    by_cases h2 : s = 0
    · rw [if_pos h2]
      have ho' : bits .and .i64 s 1 = 0 := by omega
      have hq0 : q = 0 := by omega
      clear ho bs
      go_enter Tryz.func125, Tryz.ntmps125
      go_wp2_with (first
        | (go_at_call 60; (with_reducible refine (T0.out _).mono ?_); rintro e w' ⟨rfl, hb⟩; (try (have pb_ := Lib.hid (PB.out.below hb); clear PB; have PB := pb_)); have st_ := Lib.hid (ST.out.call hb); clear ST hb; have ST := st_)
        | (go_at_call 117; (with_reducible refine (T1.out _).mono ?_); rintro e w' ⟨rfl, hb⟩; (try (have pb_ := Lib.hid (PB.out.below hb); clear PB; have PB := pb_)); have st_ := Lib.hid (ST.out.call hb); clear ST hb; have ST := st_)
        | (go_at_call 61; (with_reducible refine (T2.out _).mono ?_); rintro e w' ⟨rfl, hb⟩; (try (have pb_ := Lib.hid (PB.out.below hb); clear PB; have PB := pb_)); have st_ := Lib.hid (ST.out.call hb); clear ST hb; have ST := st_)
        | (go_at_call 116; (with_reducible refine (T3.out _).mono ?_); rintro e w' ⟨rfl, hb⟩; (try (have pb_ := Lib.hid (PB.out.below hb); clear PB; have PB := pb_)); have st_ := Lib.hid (ST.out.call hb); clear ST hb; have ST := st_)
        | (go_at_call 116; (with_reducible refine (T4.out _).mono ?_); rintro e w' ⟨rfl, hb⟩; (try (have pb_ := Lib.hid (PB.out.below hb); clear PB; have PB := pb_)); have st_ := Lib.hid (ST.out.call hb); clear ST hb; have ST := st_)
        | ((with_reducible refine Step.gate_box (t := 74) rfl ?_); refine Step.fresh (cs := #[.int .i64 9, .int .i64 0, .int .i64 rd, .int .i64 rs1, .int .i64 0, .int .i64 m, .int .i64 0, .bool false]) (T := 74) rfl ?hr ?_; (case hr => first | (go_simp; done)); intro g1 w1 b hg hb; have ST := Lib.hid (S1.made b hg hb); clear b hg hb)
        | ((with_reducible refine Step.gate_alloc (t := 74) rfl ?_); refine Step.freshAlloc rfl rfl (alloc_agg zero_inst) ?_; intro g2 w2 b hg hb; have st_ := Lib.hid (ST.out.more b hg hb); clear ST b hg hb; have ST := st_)
        | ((with_reducible refine Step.gate_store (t := 3) rfl ?_); refine Step.store ST.out.one rfl rfl rfl rfl rfl pl_int rfl rfl ?_; intro w3 nb m; have st_ := Lib.hid (ST.out.set1 nb m); clear ST nb m; have ST := st_)
        | ((with_reducible refine Step.gate_load (t := 74) rfl ?_); refine Step.loadAll ST.out.one rfl rfl rfl Tryz.underlying74 rfl size_inst ?_)
        | ((with_reducible refine Step.gate_store (t := 74) rfl ?_); refine Step.storeAll ST.out.two rfl rfl rfl rfl rfl size_inst rfl rfl ?_; intro w3 nb m; have st_ := Lib.hid (ST.out.set2 nb m); clear ST nb m; have ST := st_))
      refine bodyPost_ret (results_row_tmp rfl _ _ g2 _ _ _ rfl ST.out.two Tryz.underlying74 rfl size_inst) rfl ⟨rfl, ST.out.below⟩
    · rw [if_neg h2]
      by_cases h3 : s = 32
      · rw [if_pos h3]
        have ho' : bits .and .i64 s 1 = 0 := by omega
        have hq0 : q = 16 := by omega
        clear ho bs
        go_enter Tryz.func125, Tryz.ntmps125
        go_wp2_with (first
          | (go_at_call 60; (with_reducible refine (T0.out _).mono ?_); rintro e w' ⟨rfl, hb⟩; (try (have pb_ := Lib.hid (PB.out.below hb); clear PB; have PB := pb_)); have st_ := Lib.hid (ST.out.call hb); clear ST hb; have ST := st_)
          | (go_at_call 117; (with_reducible refine (T1.out _).mono ?_); rintro e w' ⟨rfl, hb⟩; (try (have pb_ := Lib.hid (PB.out.below hb); clear PB; have PB := pb_)); have st_ := Lib.hid (ST.out.call hb); clear ST hb; have ST := st_)
          | (go_at_call 61; (with_reducible refine (T2.out _).mono ?_); rintro e w' ⟨rfl, hb⟩; (try (have pb_ := Lib.hid (PB.out.below hb); clear PB; have PB := pb_)); have st_ := Lib.hid (ST.out.call hb); clear ST hb; have ST := st_)
          | (go_at_call 116; (with_reducible refine (T3.out _).mono ?_); rintro e w' ⟨rfl, hb⟩; (try (have pb_ := Lib.hid (PB.out.below hb); clear PB; have PB := pb_)); have st_ := Lib.hid (ST.out.call hb); clear ST hb; have ST := st_)
          | (go_at_call 116; (with_reducible refine (T4.out _).mono ?_); rintro e w' ⟨rfl, hb⟩; (try (have pb_ := Lib.hid (PB.out.below hb); clear PB; have PB := pb_)); have st_ := Lib.hid (ST.out.call hb); clear ST hb; have ST := st_)
          | ((with_reducible refine Step.gate_box (t := 74) rfl ?_); refine Step.fresh (cs := #[.int .i64 9, .int .i64 0, .int .i64 rd, .int .i64 rs1, .int .i64 0, .int .i64 m, .int .i64 0, .bool false]) (T := 74) rfl ?hr ?_; (case hr => first | (go_simp; done)); intro g1 w1 b hg hb; have ST := Lib.hid (S1.made b hg hb); clear b hg hb)
          | ((with_reducible refine Step.gate_alloc (t := 74) rfl ?_); refine Step.freshAlloc rfl rfl (alloc_agg zero_inst) ?_; intro g2 w2 b hg hb; have st_ := Lib.hid (ST.out.more b hg hb); clear ST b hg hb; have ST := st_)
          | ((with_reducible refine Step.gate_store (t := 3) rfl ?_); refine Step.store ST.out.one rfl rfl rfl rfl rfl pl_int rfl rfl ?_; intro w3 nb m; have st_ := Lib.hid (ST.out.set1 nb m); clear ST nb m; have ST := st_)
          | ((with_reducible refine Step.gate_load (t := 74) rfl ?_); refine Step.loadAll ST.out.one rfl rfl rfl Tryz.underlying74 rfl size_inst ?_)
          | ((with_reducible refine Step.gate_store (t := 74) rfl ?_); refine Step.storeAll ST.out.two rfl rfl rfl rfl rfl size_inst rfl rfl ?_; intro w3 nb m; have st_ := Lib.hid (ST.out.set2 nb m); clear ST nb m; have ST := st_))
        refine bodyPost_ret (results_row_tmp rfl _ _ g2 _ _ _ rfl ST.out.two Tryz.underlying74 rfl size_inst) rfl ⟨rfl, ST.out.below⟩
      · rw [if_neg h3]
        by_cases hp : s % 2 = 1
        · have ho' : bits .and .i64 s 1 = 1 := ho.trans hp
          clear ho hp bs
          go_enter Tryz.func125, Tryz.ntmps125
          go_wp2_with (first
            | (go_at_call 60; (with_reducible refine (T0.out _).mono ?_); rintro e w' ⟨rfl, hb⟩; (try (have pb_ := Lib.hid (PB.out.below hb); clear PB; have PB := pb_)); have st_ := Lib.hid (ST.out.call hb); clear ST hb; have ST := st_)
            | (go_at_call 117; (with_reducible refine (T1.out _).mono ?_); rintro e w' ⟨rfl, hb⟩; (try (have pb_ := Lib.hid (PB.out.below hb); clear PB; have PB := pb_)); have st_ := Lib.hid (ST.out.call hb); clear ST hb; have ST := st_)
            | (go_at_call 61; (with_reducible refine (T2.out _).mono ?_); rintro e w' ⟨rfl, hb⟩; (try (have pb_ := Lib.hid (PB.out.below hb); clear PB; have PB := pb_)); have st_ := Lib.hid (ST.out.call hb); clear ST hb; have ST := st_)
            | (go_at_call 116; (with_reducible refine (T3.out _).mono ?_); rintro e w' ⟨rfl, hb⟩; (try (have pb_ := Lib.hid (PB.out.below hb); clear PB; have PB := pb_)); have st_ := Lib.hid (ST.out.call hb); clear ST hb; have ST := st_)
            | ((with_reducible refine Step.gate_box (t := 74) rfl ?_); refine Step.fresh (cs := #[.int .i64 9, .int .i64 0, .int .i64 rd, .int .i64 rs1, .int .i64 0, .int .i64 m, .int .i64 0, .bool false]) (T := 74) rfl ?hr ?_; (case hr => first | (go_simp; done)); intro g1 w1 b hg hb; have ST := Lib.hid (S1.made b hg hb); clear b hg hb)
            | ((with_reducible refine Step.gate_alloc (t := 74) rfl ?_); refine Step.freshAlloc rfl rfl (alloc_agg zero_inst) ?_; intro g2 w2 b hg hb; have st_ := Lib.hid (ST.out.more b hg hb); clear ST b hg hb; have ST := st_)
            | ((with_reducible refine Step.gate_load (t := 74) rfl ?_); refine Step.loadAll ST.out.one rfl rfl rfl Tryz.underlying74 rfl size_inst ?_)
            | ((with_reducible refine Step.gate_store (t := 74) rfl ?_); refine Step.storeAll ST.out.two rfl rfl rfl rfl rfl size_inst rfl rfl ?_; intro w3 nb m; have st_ := Lib.hid (ST.out.set2 nb m); clear ST nb m; have ST := st_))
          refine bodyPost_ret (results_row_tmp rfl _ _ g2 _ _ _ rfl ST.out.two Tryz.underlying74 rfl size_inst) rfl ⟨rfl, ST.out.below⟩
        · have ho' : bits .and .i64 s 1 = 0 := by omega
          have hq0 : ¬ q = 0 := by omega
          have hq1 : ¬ q = 16 := by omega
          clear ho hp bs
          go_enter Tryz.func125, Tryz.ntmps125
          go_wp2_with (first
            | (go_at_call 60; (with_reducible refine (T0.out _).mono ?_); rintro e w' ⟨rfl, hb⟩; (try (have pb_ := Lib.hid (PB.out.below hb); clear PB; have PB := pb_)); have st_ := Lib.hid (ST.out.call hb); clear ST hb; have ST := st_)
            | (go_at_call 117; (with_reducible refine (T1.out _).mono ?_); rintro e w' ⟨rfl, hb⟩; (try (have pb_ := Lib.hid (PB.out.below hb); clear PB; have PB := pb_)); have st_ := Lib.hid (ST.out.call hb); clear ST hb; have ST := st_)
            | (go_at_call 61; (with_reducible refine (T2.out _).mono ?_); rintro e w' ⟨rfl, hb⟩; (try (have pb_ := Lib.hid (PB.out.below hb); clear PB; have PB := pb_)); have st_ := Lib.hid (ST.out.call hb); clear ST hb; have ST := st_)
            | (go_at_call 116; (with_reducible refine (T3.out _).mono ?_); rintro e w' ⟨rfl, hb⟩; (try (have pb_ := Lib.hid (PB.out.below hb); clear PB; have PB := pb_)); have st_ := Lib.hid (ST.out.call hb); clear ST hb; have ST := st_)
            | ((with_reducible refine Step.gate_box (t := 74) rfl ?_); refine Step.fresh (cs := #[.int .i64 9, .int .i64 0, .int .i64 rd, .int .i64 rs1, .int .i64 0, .int .i64 m, .int .i64 0, .bool false]) (T := 74) rfl ?hr ?_; (case hr => first | (go_simp; done)); intro g1 w1 b hg hb; have ST := Lib.hid (S1.made b hg hb); clear b hg hb)
            | ((with_reducible refine Step.gate_alloc (t := 74) rfl ?_); refine Step.freshAlloc rfl rfl (alloc_agg zero_inst) ?_; intro g2 w2 b hg hb; have st_ := Lib.hid (ST.out.more b hg hb); clear ST b hg hb; have ST := st_)
            | ((with_reducible refine Step.gate_load (t := 74) rfl ?_); refine Step.loadAll ST.out.one rfl rfl rfl Tryz.underlying74 rfl size_inst ?_)
            | ((with_reducible refine Step.gate_store (t := 74) rfl ?_); refine Step.storeAll ST.out.two rfl rfl rfl rfl rfl size_inst rfl rfl ?_; intro w3 nb m; have st_ := Lib.hid (ST.out.set2 nb m); clear ST nb m; have ST := st_))
          refine bodyPost_ret (results_row_tmp rfl _ _ g2 _ _ _ rfl ST.out.two Tryz.underlying74 rfl size_inst) rfl ⟨rfl, ST.out.below⟩
  rw [if_neg h5]
  by_cases hp : s % 2 = 1
  · have ho' : bits .and .i64 s 1 = 1 := ho.trans hp
    clear ho hp bs
    go_enter Tryz.func125, Tryz.ntmps125
    go_wp2_with (first
      | (go_at_call 60; (with_reducible refine (T0.out _).mono ?_); rintro e w' ⟨rfl, hb⟩; (try (have pb_ := Lib.hid (PB.out.below hb); clear PB; have PB := pb_)); have st_ := Lib.hid (ST.out.call hb); clear ST hb; have ST := st_)
      | (go_at_call 117; (with_reducible refine (T1.out _).mono ?_); rintro e w' ⟨rfl, hb⟩; (try (have pb_ := Lib.hid (PB.out.below hb); clear PB; have PB := pb_)); have st_ := Lib.hid (ST.out.call hb); clear ST hb; have ST := st_)
      | (go_at_call 61; (with_reducible refine (T2.out _).mono ?_); rintro e w' ⟨rfl, hb⟩; (try (have pb_ := Lib.hid (PB.out.below hb); clear PB; have PB := pb_)); have st_ := Lib.hid (ST.out.call hb); clear ST hb; have ST := st_)
      | (go_at_call 116; (with_reducible refine (T3.out _).mono ?_); rintro e w' ⟨rfl, hb⟩; (try (have pb_ := Lib.hid (PB.out.below hb); clear PB; have PB := pb_)); have st_ := Lib.hid (ST.out.call hb); clear ST hb; have ST := st_)
      | ((with_reducible refine Step.gate_box (t := 74) rfl ?_); refine Step.fresh (cs := #[.int .i64 9, .int .i64 0, .int .i64 rd, .int .i64 rs1, .int .i64 0, .int .i64 m, .int .i64 0, .bool false]) (T := 74) rfl ?hr ?_; (case hr => first | (go_simp; done)); intro g1 w1 b hg hb; have ST := Lib.hid (S1.made b hg hb); clear b hg hb)
      | ((with_reducible refine Step.gate_alloc (t := 74) rfl ?_); refine Step.freshAlloc rfl rfl (alloc_agg zero_inst) ?_; intro g2 w2 b hg hb; have st_ := Lib.hid (ST.out.more b hg hb); clear ST b hg hb; have ST := st_)
      | ((with_reducible refine Step.gate_load (t := 74) rfl ?_); refine Step.loadAll ST.out.one rfl rfl rfl Tryz.underlying74 rfl size_inst ?_)
      | ((with_reducible refine Step.gate_store (t := 74) rfl ?_); refine Step.storeAll ST.out.two rfl rfl rfl rfl rfl size_inst rfl rfl ?_; intro w3 nb m; have st_ := Lib.hid (ST.out.set2 nb m); clear ST nb m; have ST := st_))
    refine bodyPost_ret (results_row_tmp rfl _ _ g2 _ _ _ rfl ST.out.two Tryz.underlying74 rfl size_inst) rfl ⟨rfl, ST.out.below⟩
  · have ho' : bits .and .i64 s 1 = 0 := by omega
    clear ho hp bs
    go_enter Tryz.func125, Tryz.ntmps125
    go_wp2_with (first
      | (go_at_call 60; (with_reducible refine (T0.out _).mono ?_); rintro e w' ⟨rfl, hb⟩; (try (have pb_ := Lib.hid (PB.out.below hb); clear PB; have PB := pb_)); have st_ := Lib.hid (ST.out.call hb); clear ST hb; have ST := st_)
      | (go_at_call 117; (with_reducible refine (T1.out _).mono ?_); rintro e w' ⟨rfl, hb⟩; (try (have pb_ := Lib.hid (PB.out.below hb); clear PB; have PB := pb_)); have st_ := Lib.hid (ST.out.call hb); clear ST hb; have ST := st_)
      | (go_at_call 61; (with_reducible refine (T2.out _).mono ?_); rintro e w' ⟨rfl, hb⟩; (try (have pb_ := Lib.hid (PB.out.below hb); clear PB; have PB := pb_)); have st_ := Lib.hid (ST.out.call hb); clear ST hb; have ST := st_)
      | (go_at_call 116; (with_reducible refine (T3.out _).mono ?_); rintro e w' ⟨rfl, hb⟩; (try (have pb_ := Lib.hid (PB.out.below hb); clear PB; have PB := pb_)); have st_ := Lib.hid (ST.out.call hb); clear ST hb; have ST := st_)
      | ((with_reducible refine Step.gate_box (t := 74) rfl ?_); refine Step.fresh (cs := #[.int .i64 9, .int .i64 0, .int .i64 rd, .int .i64 rs1, .int .i64 0, .int .i64 m, .int .i64 0, .bool false]) (T := 74) rfl ?hr ?_; (case hr => first | (go_simp; done)); intro g1 w1 b hg hb; have ST := Lib.hid (S1.made b hg hb); clear b hg hb)
      | ((with_reducible refine Step.gate_alloc (t := 74) rfl ?_); refine Step.freshAlloc rfl rfl (alloc_agg zero_inst) ?_; intro g2 w2 b hg hb; have st_ := Lib.hid (ST.out.more b hg hb); clear ST b hg hb; have ST := st_)
      | ((with_reducible refine Step.gate_load (t := 74) rfl ?_); refine Step.loadAll ST.out.one rfl rfl rfl Tryz.underlying74 rfl size_inst ?_)
      | ((with_reducible refine Step.gate_store (t := 74) rfl ?_); refine Step.storeAll ST.out.two rfl rfl rfl rfl rfl size_inst rfl rfl ?_; intro w3 nb m; have st_ := Lib.hid (ST.out.set2 nb m); clear ST nb m; have ST := st_))
    refine bodyPost_ret (results_row_tmp rfl _ _ g2 _ _ _ rfl ST.out.two Tryz.underlying74 rfl size_inst) rfl ⟨rfl, ST.out.below⟩
end Go.Proofs.YtidiojhefjhojaaGreat.Enc
end
