/- Parts of the walks and laws for the claim: EncB; no conditions beyond the theorems' own. -/
import Derived.Test.YtidiojhefjhojaaGreatQ15
section
namespace Go.Proofs.YtidiojhefjhojaaGreat.Enc
open Go Go.RowKit Go.Proofs.YtidiojhefjhojaaGreat.Step
set_option linter.unusedVariables false
set_option linter.unusedSimpArgs false
set_option maxRecDepth 100000
theorem calls_size {P : Program} {f : FuncId} {args : Array Value} {w : World} {r : Ending} (h : Calls P f args w fun e w' => e = r ∧ w = w') : Calls P f args w fun e w' => e = r ∧ Below w.heap.size w w' ∧ w'.heap.size = w.heap.size := h.mono fun e w' k => ⟨k.1, by rw [← k.2]; exact ⟨Below.refl _ _, rfl⟩⟩
theorem ix_bd (L : List Int) (v : Int) : -1 ≤ ix L v ∧ ix L v < (L.length : Int) + 1 := by
  unfold ix
  cases h : L.findIdx? (· == v) with
  | none => exact ⟨Int.le_refl _, by show (-1 : Int) < _; omega⟩
  | some i =>
    have := (List.findIdx?_eq_some_iff_getElem.1 h).1
    exact ⟨by show (-1 : Int) ≤ (i : Int); omega, by show (i : Int) < _; omega⟩
def bor (x y : Int) : Int := bits .or .u32 x y
def imL : List Int := ([1, 0, 4, 5, 6, 0, 9, 10] : List Int)
def ld4 : List Int := [1, 2, 4, 8]
def at2 : List Int := [4, 8]
def amL : List Int := [2, 1, 0, 0, 3, 0, 0, 0, 5, 0, 0, 0, 4, 0, 0, 0, 6, 0, 0, 0, 7, 0, 0, 0, 8, 0, 0, 0, 9]
def encI (fn imm : Int) : Int :=
  if fn = 19 then bor 27 (pt imm 12 20) else if fn = 21 then bor 4123 (pt imm 5 20) else if fn = 22 then bor 20507 (pt imm 5 20) else if fn = 23 then bor 1073762331 (pt imm 5 20)
  else if fn = 3 then bor 4115 (pt imm 6 20) else if fn = 7 then bor 20499 (pt imm 6 20) else if fn = 8 then bor 1073762323 (pt imm 6 20)
  else bor (bor 19 (pt imm 12 20)) (pt (ix imL fn) 3 12)
set_option maxHeartbeats 2000000 in
theorem encI_any (k : Int) (fn rd rs1 rs2 imm sz : Int) (sg : Bool) (w : World) : Calls Tryz.prog 114 #[.agg #[.int .i64 k, .int .i64 fn, .int .i64 rd, .int .i64 rs1, .int .i64 rs2, .int .i64 imm, .int .i64 sz, .bool sg]] w fun e w' => e = .returned (.int .u32 (encI fn imm)) ∧ Below w.heap.size w w' := by
  have T0 := Lib.hid (fun w => calls_same (show Calls Tryz.prog 112 #[.int .i64 (imm), .int .i64 31, .int .i64 20] w fun e w' => e = .returned (.int .u32 (pt (imm) 12 20)) ∧ w = w' from put_any (imm) 31 20 31 20 rfl rfl (by decide) (by decide) w))
  have T1 := Lib.hid (fun w => calls_same (show Calls Tryz.prog 112 #[.int .i64 (imm), .int .i64 25, .int .i64 20] w fun e w' => e = .returned (.int .u32 (pt (imm) 6 20)) ∧ w = w' from put_any (imm) 25 20 25 20 rfl rfl (by decide) (by decide) w))
  have T2 := Lib.hid (fun w => calls_same (show Calls Tryz.prog 112 #[.int .i64 (imm), .int .i64 24, .int .i64 20] w fun e w' => e = .returned (.int .u32 (pt (imm) 5 20)) ∧ w = w' from put_any (imm) 24 20 24 20 rfl rfl (by decide) (by decide) w))
  have T3 := Lib.hid (fun w => calls_same (show Calls Tryz.prog 112 #[.int .i64 (ix imL fn), .int .i64 14, .int .i64 12] w fun e w' => e = .returned (.int .u32 (pt (ix imL fn) 3 12)) ∧ w = w' from put_any (ix imL fn) 14 12 14 12 rfl rfl (by decide) (by decide) w))
  have hu : ix ([1, 0, 4, 5, 6, 0, 9, 10] : List Int) fn = ix imL fn := rfl
  unfold encI
  generalize pt (imm) 12 20 = p0 at *
  generalize pt (imm) 6 20 = p1 at *
  generalize pt (imm) 5 20 = p2 at *
  generalize pt (ix imL fn) 3 12 = p3 at *
  generalize ix imL fn = u at *
  by_cases h19 : fn = 19
  · rw [if_pos h19]
    go_enter Tryz.func114, Tryz.ntmps114
    go_wp2_with (first
      | (go_at_call 112; (with_reducible refine (T0.out _).mono ?_); rintro e w' ⟨rfl, hb⟩; (try (have pb_ := Lib.hid (PB.out.below hb); clear PB; have PB := pb_)); have st_ := Lib.hid (ST.out.call hb); clear ST hb; have ST := st_)
      | ((with_reducible refine Step.gate_box (t := 74) rfl ?_); refine Step.fresh (cs := #[.int .i64 k, .int .i64 fn, .int .i64 rd, .int .i64 rs1, .int .i64 rs2, .int .i64 imm, .int .i64 sz, .bool sg]) (T := 74) rfl ?hr ?_; (case hr => first | (go_simp; done)); intro g1 w1 b hg hb; have ST := Lib.hid (S1.made b hg hb); clear b hg hb)
      | ((with_reducible refine Step.gate_load (t := 3) rfl ?_); refine Step.load ST.out.one rfl rfl rfl pl_int rfl ?_))
    go_ret
    exact ⟨rfl, ST.out.below⟩
  rw [if_neg h19]
  by_cases h21 : fn = 21
  · rw [if_pos h21]
    go_enter Tryz.func114, Tryz.ntmps114
    go_wp2_with (first
      | (go_at_call 112; (with_reducible refine (T0.out _).mono ?_); rintro e w' ⟨rfl, hb⟩; (try (have pb_ := Lib.hid (PB.out.below hb); clear PB; have PB := pb_)); have st_ := Lib.hid (ST.out.call hb); clear ST hb; have ST := st_)
      | (go_at_call 112; (with_reducible refine (T2.out _).mono ?_); rintro e w' ⟨rfl, hb⟩; (try (have pb_ := Lib.hid (PB.out.below hb); clear PB; have PB := pb_)); have st_ := Lib.hid (ST.out.call hb); clear ST hb; have ST := st_)
      | ((with_reducible refine Step.gate_box (t := 74) rfl ?_); refine Step.fresh (cs := #[.int .i64 k, .int .i64 fn, .int .i64 rd, .int .i64 rs1, .int .i64 rs2, .int .i64 imm, .int .i64 sz, .bool sg]) (T := 74) rfl ?hr ?_; (case hr => first | (go_simp; done)); intro g1 w1 b hg hb; have ST := Lib.hid (S1.made b hg hb); clear b hg hb)
      | ((with_reducible refine Step.gate_load (t := 3) rfl ?_); refine Step.load ST.out.one rfl rfl rfl pl_int rfl ?_))
    go_ret
    exact ⟨rfl, ST.out.below⟩
  rw [if_neg h21]
  by_cases h22 : fn = 22
  · rw [if_pos h22]
    go_enter Tryz.func114, Tryz.ntmps114
    go_wp2_with (first
      | (go_at_call 112; (with_reducible refine (T0.out _).mono ?_); rintro e w' ⟨rfl, hb⟩; (try (have pb_ := Lib.hid (PB.out.below hb); clear PB; have PB := pb_)); have st_ := Lib.hid (ST.out.call hb); clear ST hb; have ST := st_)
      | (go_at_call 112; (with_reducible refine (T2.out _).mono ?_); rintro e w' ⟨rfl, hb⟩; (try (have pb_ := Lib.hid (PB.out.below hb); clear PB; have PB := pb_)); have st_ := Lib.hid (ST.out.call hb); clear ST hb; have ST := st_)
      | ((with_reducible refine Step.gate_box (t := 74) rfl ?_); refine Step.fresh (cs := #[.int .i64 k, .int .i64 fn, .int .i64 rd, .int .i64 rs1, .int .i64 rs2, .int .i64 imm, .int .i64 sz, .bool sg]) (T := 74) rfl ?hr ?_; (case hr => first | (go_simp; done)); intro g1 w1 b hg hb; have ST := Lib.hid (S1.made b hg hb); clear b hg hb)
      | ((with_reducible refine Step.gate_load (t := 3) rfl ?_); refine Step.load ST.out.one rfl rfl rfl pl_int rfl ?_))
    go_ret
    exact ⟨rfl, ST.out.below⟩
  rw [if_neg h22]
  by_cases h23 : fn = 23
  · rw [if_pos h23]
    go_enter Tryz.func114, Tryz.ntmps114
    go_wp2_with (first
      | (go_at_call 112; (with_reducible refine (T0.out _).mono ?_); rintro e w' ⟨rfl, hb⟩; (try (have pb_ := Lib.hid (PB.out.below hb); clear PB; have PB := pb_)); have st_ := Lib.hid (ST.out.call hb); clear ST hb; have ST := st_)
      | (go_at_call 112; (with_reducible refine (T2.out _).mono ?_); rintro e w' ⟨rfl, hb⟩; (try (have pb_ := Lib.hid (PB.out.below hb); clear PB; have PB := pb_)); have st_ := Lib.hid (ST.out.call hb); clear ST hb; have ST := st_)
      | ((with_reducible refine Step.gate_box (t := 74) rfl ?_); refine Step.fresh (cs := #[.int .i64 k, .int .i64 fn, .int .i64 rd, .int .i64 rs1, .int .i64 rs2, .int .i64 imm, .int .i64 sz, .bool sg]) (T := 74) rfl ?hr ?_; (case hr => first | (go_simp; done)); intro g1 w1 b hg hb; have ST := Lib.hid (S1.made b hg hb); clear b hg hb)
      | ((with_reducible refine Step.gate_load (t := 3) rfl ?_); refine Step.load ST.out.one rfl rfl rfl pl_int rfl ?_))
    go_ret
    exact ⟨rfl, ST.out.below⟩
  rw [if_neg h23]
  by_cases h3 : fn = 3
  · rw [if_pos h3]
    go_enter Tryz.func114, Tryz.ntmps114
    go_wp2_with (first
      | (go_at_call 112; (with_reducible refine (T0.out _).mono ?_); rintro e w' ⟨rfl, hb⟩; (try (have pb_ := Lib.hid (PB.out.below hb); clear PB; have PB := pb_)); have st_ := Lib.hid (ST.out.call hb); clear ST hb; have ST := st_)
      | (go_at_call 112; (with_reducible refine (T1.out _).mono ?_); rintro e w' ⟨rfl, hb⟩; (try (have pb_ := Lib.hid (PB.out.below hb); clear PB; have PB := pb_)); have st_ := Lib.hid (ST.out.call hb); clear ST hb; have ST := st_)
      | ((with_reducible refine Step.gate_box (t := 74) rfl ?_); refine Step.fresh (cs := #[.int .i64 k, .int .i64 fn, .int .i64 rd, .int .i64 rs1, .int .i64 rs2, .int .i64 imm, .int .i64 sz, .bool sg]) (T := 74) rfl ?hr ?_; (case hr => first | (go_simp; done)); intro g1 w1 b hg hb; have ST := Lib.hid (S1.made b hg hb); clear b hg hb)
      | ((with_reducible refine Step.gate_load (t := 3) rfl ?_); refine Step.load ST.out.one rfl rfl rfl pl_int rfl ?_))
    go_ret
    exact ⟨rfl, ST.out.below⟩
  rw [if_neg h3]
  by_cases h7 : fn = 7
  · rw [if_pos h7]
    go_enter Tryz.func114, Tryz.ntmps114
    go_wp2_with (first
      | (go_at_call 112; (with_reducible refine (T0.out _).mono ?_); rintro e w' ⟨rfl, hb⟩; (try (have pb_ := Lib.hid (PB.out.below hb); clear PB; have PB := pb_)); have st_ := Lib.hid (ST.out.call hb); clear ST hb; have ST := st_)
      | (go_at_call 112; (with_reducible refine (T1.out _).mono ?_); rintro e w' ⟨rfl, hb⟩; (try (have pb_ := Lib.hid (PB.out.below hb); clear PB; have PB := pb_)); have st_ := Lib.hid (ST.out.call hb); clear ST hb; have ST := st_)
      | ((with_reducible refine Step.gate_box (t := 74) rfl ?_); refine Step.fresh (cs := #[.int .i64 k, .int .i64 fn, .int .i64 rd, .int .i64 rs1, .int .i64 rs2, .int .i64 imm, .int .i64 sz, .bool sg]) (T := 74) rfl ?hr ?_; (case hr => first | (go_simp; done)); intro g1 w1 b hg hb; have ST := Lib.hid (S1.made b hg hb); clear b hg hb)
      | ((with_reducible refine Step.gate_load (t := 3) rfl ?_); refine Step.load ST.out.one rfl rfl rfl pl_int rfl ?_))
    go_ret
    exact ⟨rfl, ST.out.below⟩
  rw [if_neg h7]
  by_cases h8 : fn = 8
  · rw [if_pos h8]
    go_enter Tryz.func114, Tryz.ntmps114
    go_wp2_with (first
      | (go_at_call 112; (with_reducible refine (T0.out _).mono ?_); rintro e w' ⟨rfl, hb⟩; (try (have pb_ := Lib.hid (PB.out.below hb); clear PB; have PB := pb_)); have st_ := Lib.hid (ST.out.call hb); clear ST hb; have ST := st_)
      | (go_at_call 112; (with_reducible refine (T1.out _).mono ?_); rintro e w' ⟨rfl, hb⟩; (try (have pb_ := Lib.hid (PB.out.below hb); clear PB; have PB := pb_)); have st_ := Lib.hid (ST.out.call hb); clear ST hb; have ST := st_)
      | ((with_reducible refine Step.gate_box (t := 74) rfl ?_); refine Step.fresh (cs := #[.int .i64 k, .int .i64 fn, .int .i64 rd, .int .i64 rs1, .int .i64 rs2, .int .i64 imm, .int .i64 sz, .bool sg]) (T := 74) rfl ?hr ?_; (case hr => first | (go_simp; done)); intro g1 w1 b hg hb; have ST := Lib.hid (S1.made b hg hb); clear b hg hb)
      | ((with_reducible refine Step.gate_load (t := 3) rfl ?_); refine Step.load ST.out.one rfl rfl rfl pl_int rfl ?_))
    go_ret
    exact ⟨rfl, ST.out.below⟩
  rw [if_neg h8]
  go_enter Tryz.func114, Tryz.ntmps114
  go_wp2_with (first
    | (go_at_call 112; (with_reducible refine (T0.out _).mono ?_); rintro e w' ⟨rfl, hb⟩; (try (have pb_ := Lib.hid (PB.out.below hb); clear PB; have PB := pb_)); have st_ := Lib.hid (ST.out.call hb); clear ST hb; have ST := st_)
    | (go_at_call 112; (with_reducible refine (T3.out _).mono ?_); rintro e w' ⟨rfl, hb⟩; (try (have pb_ := Lib.hid (PB.out.below hb); clear PB; have PB := pb_)); have st_ := Lib.hid (ST.out.call hb); clear ST hb; have ST := st_)
    | ((with_reducible refine Step.gate_build (t := 174) rfl ?_); refine Step.freshSlice (cs := #[.int .i64 1, .int .i64 0, .int .i64 4, .int .i64 5, .int .i64 6, .int .i64 0, .int .i64 9, .int .i64 10]) (T := 3) (n := 8) (m := 8) rfl ?hr ?_; (case hr => first | (go_simp; done)); intro g9 w1 b hg hb; have PB := Lib.hid (show Blk w1 g9 (Enc.ints ([1, 0, 4, 5, 6, 0, 9, 10] : List Int)) _ from b); have st_ := Lib.hid (ST.out.call hb); clear ST b hb hg; have ST := st_)
    | (go_at_call 113; have ix_ := index_any (n := 8) PB.out (([1, 0, 4, 5, 6, 0, 9, 10] : List Int)) rfl rfl (by decide) fn; (with_reducible refine ix_.mono ?_); clear ix_; rintro e w' ⟨rfl, rfl⟩; clear PB; (try rw [hu]))
    | ((with_reducible refine Step.gate_box (t := 74) rfl ?_); refine Step.fresh (cs := #[.int .i64 k, .int .i64 fn, .int .i64 rd, .int .i64 rs1, .int .i64 rs2, .int .i64 imm, .int .i64 sz, .bool sg]) (T := 74) rfl ?hr ?_; (case hr => first | (go_simp; done)); intro g1 w1 b hg hb; have ST := Lib.hid (S1.made b hg hb); clear b hg hb)
    | ((with_reducible refine Step.gate_load (t := 3) rfl ?_); refine Step.load ST.out.one rfl rfl rfl pl_int rfl ?_))
  go_ret
  exact ⟨rfl, ST.out.below⟩
def regW (rd rs1 rs2 : Int) : Int := bor (bor (pt rd 5 7) (pt rs1 5 15)) (pt rs2 5 20)
set_option maxHeartbeats 2000000 in
theorem encode_1 (fn rd rs1 rs2 imm sz : Int) (sg : Bool) (w : World) : Calls Tryz.prog 59 #[.agg #[.int .i64 1, .int .i64 fn, .int .i64 rd, .int .i64 rs1, .int .i64 rs2, .int .i64 imm, .int .i64 sz, .bool sg]] w fun e w' => e = .returned (.int .u32 (bor (bor (55) (regW rd rs1 rs2)) (pt (imm / 4096) 20 12))) ∧ Below w.heap.size w w' := by
  have Q1 := Lib.hid (fun w => calls_same (show Calls Tryz.prog 112 #[.int .i64 (rd), .int .i64 11, .int .i64 7] w fun e w' => e = .returned (.int .u32 (pt (rd) 5 7)) ∧ w = w' from put_any (rd) 11 7 11 7 rfl rfl (by decide) (by decide) w))
  have Q2 := Lib.hid (fun w => calls_same (show Calls Tryz.prog 112 #[.int .i64 (rs1), .int .i64 19, .int .i64 15] w fun e w' => e = .returned (.int .u32 (pt (rs1) 5 15)) ∧ w = w' from put_any (rs1) 19 15 19 15 rfl rfl (by decide) (by decide) w))
  have Q3 := Lib.hid (fun w => calls_same (show Calls Tryz.prog 112 #[.int .i64 (rs2), .int .i64 24, .int .i64 20] w fun e w' => e = .returned (.int .u32 (pt (rs2) 5 20)) ∧ w = w' from put_any (rs2) 24 20 24 20 rfl rfl (by decide) (by decide) w))
  have T0 := Lib.hid (fun w => calls_same (show Calls Tryz.prog 112 #[.int .i64 (imm / 4096), .int .i64 31, .int .i64 12] w fun e w' => e = .returned (.int .u32 (pt (imm / 4096) 20 12)) ∧ w = w' from put_any (imm / 4096) 31 12 31 12 rfl rfl (by decide) (by decide) w))
  generalize pt (imm / 4096) 20 12 = p0 at *
  unfold regW
  generalize pt (rd) 5 7 = q1 at *
  generalize pt (rs1) 5 15 = q2 at *
  generalize pt (rs2) 5 20 = q3 at *
  go_enter Tryz.func59, Tryz.ntmps59
  go_wp2_with (first
    | ((with_reducible refine one_region (id := 1) (fin := ?fin_1) ST.out ?hm_1 [(8, .pointer (some ⟨g1, 2, none⟩)), (9, .int .i64 (rd)), (10, .int .u32 (q1)), (11, .pointer (some ⟨g1, 3, none⟩)), (12, .int .i64 (rs1)), (13, .int .u32 (q2)), (14, .int .u32 (bits .or .u32 (q1) (q2))), (15, .pointer (some ⟨g1, 4, none⟩)), (16, .int .i64 (rs2)), (17, .int .u32 (q3)), (18, .int .u32 (bits .or .u32 (bits .or .u32 (q1) (q2)) (q3))), (3, .int .u32 (bits .or .u32 (bits .or .u32 (q1) (q2)) (q3)))] ?hord_1 ?hin_1 ?hfin_1 ?hdo_1 ?_); (case hm_1 => rfl); (case hord_1 => kernel_rfl); (case hin_1 => kernel_rfl); (case hfin_1 => (simp only [Reg.puts, Act.put, List.setIfInBounds_toArray, List.set_cons_zero, List.set_cons_succ]; try rfl)); (case hdo_1 => ((repeat' (first | exact stay1_nil | refine stay1_cons ?_ ?_)); all_goals (first | exact stay1_load rfl rfl rfl pl_int rfl rfl | exact stay1_call rfl rfl (fun X => by go_simp) (fun X => Q1.out X) rfl | exact stay1_call rfl rfl (fun X => by go_simp) (fun X => Q2.out X) rfl | exact stay1_call rfl rfl (fun X => by go_simp) (fun X => Q3.out X) rfl | exact stay1_slot rfl rfl (fun X => by first | (go_simp; done))))); intro w' st_; clear ST; have ST := Lib.hid st_; clear st_)
    | (go_at_call 112; (with_reducible refine (T0.out _).mono ?_); rintro e w' ⟨rfl, hb⟩; (try (have pb_ := Lib.hid (PB.out.below hb); clear PB; have PB := pb_)); have st_ := Lib.hid (ST.out.call hb); clear ST hb; have ST := st_)
    | ((with_reducible refine Step.gate_box (t := 74) rfl ?_); refine Step.fresh (cs := #[.int .i64 1, .int .i64 fn, .int .i64 rd, .int .i64 rs1, .int .i64 rs2, .int .i64 imm, .int .i64 sz, .bool sg]) (T := 74) rfl ?hr ?_; (case hr => first | (go_simp; done)); intro g1 w1 b hg hb; have ST := Lib.hid (S1.made b hg hb); clear b hg hb)
    | ((with_reducible refine Step.gate_load (t := 3) rfl ?_); refine Step.load ST.out.one rfl rfl rfl pl_int rfl ?_))
  go_ret
  exact ⟨rfl, ST.out.below⟩
set_option maxHeartbeats 2000000 in
theorem encode_3 (fn rd rs1 rs2 imm sz : Int) (sg : Bool) (w : World) : Calls Tryz.prog 59 #[.agg #[.int .i64 3, .int .i64 fn, .int .i64 rd, .int .i64 rs1, .int .i64 rs2, .int .i64 imm, .int .i64 sz, .bool sg]] w fun e w' => e = .returned (.int .u32 (bor (bor (bor (bor (bor (111) (regW rd rs1 rs2)) (pt (imm / 1048576) 1 31)) (pt (imm / 4096) 8 12)) (pt (imm / 2048) 1 20)) (pt (imm / 2) 10 21))) ∧ Below w.heap.size w w' := by
  have Q1 := Lib.hid (fun w => calls_same (show Calls Tryz.prog 112 #[.int .i64 (rd), .int .i64 11, .int .i64 7] w fun e w' => e = .returned (.int .u32 (pt (rd) 5 7)) ∧ w = w' from put_any (rd) 11 7 11 7 rfl rfl (by decide) (by decide) w))
  have Q2 := Lib.hid (fun w => calls_same (show Calls Tryz.prog 112 #[.int .i64 (rs1), .int .i64 19, .int .i64 15] w fun e w' => e = .returned (.int .u32 (pt (rs1) 5 15)) ∧ w = w' from put_any (rs1) 19 15 19 15 rfl rfl (by decide) (by decide) w))
  have Q3 := Lib.hid (fun w => calls_same (show Calls Tryz.prog 112 #[.int .i64 (rs2), .int .i64 24, .int .i64 20] w fun e w' => e = .returned (.int .u32 (pt (rs2) 5 20)) ∧ w = w' from put_any (rs2) 24 20 24 20 rfl rfl (by decide) (by decide) w))
  have T0 := Lib.hid (fun w => calls_same (show Calls Tryz.prog 112 #[.int .i64 (imm / 1048576), .int .i64 31, .int .i64 31] w fun e w' => e = .returned (.int .u32 (pt (imm / 1048576) 1 31)) ∧ w = w' from put_any (imm / 1048576) 31 31 31 31 rfl rfl (by decide) (by decide) w))
  have T1 := Lib.hid (fun w => calls_same (show Calls Tryz.prog 112 #[.int .i64 (imm / 4096), .int .i64 19, .int .i64 12] w fun e w' => e = .returned (.int .u32 (pt (imm / 4096) 8 12)) ∧ w = w' from put_any (imm / 4096) 19 12 19 12 rfl rfl (by decide) (by decide) w))
  have T2 := Lib.hid (fun w => calls_same (show Calls Tryz.prog 112 #[.int .i64 (imm / 2048), .int .i64 20, .int .i64 20] w fun e w' => e = .returned (.int .u32 (pt (imm / 2048) 1 20)) ∧ w = w' from put_any (imm / 2048) 20 20 20 20 rfl rfl (by decide) (by decide) w))
  have T3 := Lib.hid (fun w => calls_same (show Calls Tryz.prog 112 #[.int .i64 (imm / 2), .int .i64 30, .int .i64 21] w fun e w' => e = .returned (.int .u32 (pt (imm / 2) 10 21)) ∧ w = w' from put_any (imm / 2) 30 21 30 21 rfl rfl (by decide) (by decide) w))
  generalize pt (imm / 1048576) 1 31 = p0 at *
  generalize pt (imm / 4096) 8 12 = p1 at *
  generalize pt (imm / 2048) 1 20 = p2 at *
  generalize pt (imm / 2) 10 21 = p3 at *
  unfold regW
  generalize pt (rd) 5 7 = q1 at *
  generalize pt (rs1) 5 15 = q2 at *
  generalize pt (rs2) 5 20 = q3 at *
  go_enter Tryz.func59, Tryz.ntmps59
  go_wp2_with (first
    | ((with_reducible refine one_region (id := 1) (fin := ?fin_1) ST.out ?hm_1 [(8, .pointer (some ⟨g1, 2, none⟩)), (9, .int .i64 (rd)), (10, .int .u32 (q1)), (11, .pointer (some ⟨g1, 3, none⟩)), (12, .int .i64 (rs1)), (13, .int .u32 (q2)), (14, .int .u32 (bits .or .u32 (q1) (q2))), (15, .pointer (some ⟨g1, 4, none⟩)), (16, .int .i64 (rs2)), (17, .int .u32 (q3)), (18, .int .u32 (bits .or .u32 (bits .or .u32 (q1) (q2)) (q3))), (3, .int .u32 (bits .or .u32 (bits .or .u32 (q1) (q2)) (q3)))] ?hord_1 ?hin_1 ?hfin_1 ?hdo_1 ?_); (case hm_1 => rfl); (case hord_1 => kernel_rfl); (case hin_1 => kernel_rfl); (case hfin_1 => (simp only [Reg.puts, Act.put, List.setIfInBounds_toArray, List.set_cons_zero, List.set_cons_succ]; try rfl)); (case hdo_1 => ((repeat' (first | exact stay1_nil | refine stay1_cons ?_ ?_)); all_goals (first | exact stay1_load rfl rfl rfl pl_int rfl rfl | exact stay1_call rfl rfl (fun X => by go_simp) (fun X => Q1.out X) rfl | exact stay1_call rfl rfl (fun X => by go_simp) (fun X => Q2.out X) rfl | exact stay1_call rfl rfl (fun X => by go_simp) (fun X => Q3.out X) rfl | exact stay1_slot rfl rfl (fun X => by first | (go_simp; done))))); intro w' st_; clear ST; have ST := Lib.hid st_; clear st_)
    | ((with_reducible refine one_region (id := 8) (fin := ?fin_2) ST.out ?hm_2 [(41, .int .u32 (bits .or .u32 (bits .or .u32 (q1) (q2)) (q3))), (42, .int .u32 (bits .or .u32 (111) (bits .or .u32 (bits .or .u32 (q1) (q2)) (q3)))), (43, .pointer (some ⟨g1, 5, none⟩)), (44, .int .i64 (imm)), (45, .int .i64 (imm / 1048576)), (46, .int .u32 (p0)), (47, .int .u32 (bits .or .u32 (bits .or .u32 (111) (bits .or .u32 (bits .or .u32 (q1) (q2)) (q3))) (p0))), (48, .pointer (some ⟨g1, 5, none⟩)), (49, .int .i64 (imm)), (50, .int .i64 (imm / 4096)), (51, .int .u32 (p1)), (52, .int .u32 (bits .or .u32 (bits .or .u32 (bits .or .u32 (111) (bits .or .u32 (bits .or .u32 (q1) (q2)) (q3))) (p0)) (p1))), (53, .pointer (some ⟨g1, 5, none⟩)), (54, .int .i64 (imm)), (55, .int .i64 (imm / 2048)), (56, .int .u32 (p2)), (57, .int .u32 (bits .or .u32 (bits .or .u32 (bits .or .u32 (bits .or .u32 (111) (bits .or .u32 (bits .or .u32 (q1) (q2)) (q3))) (p0)) (p1)) (p2))), (58, .pointer (some ⟨g1, 5, none⟩)), (59, .int .i64 (imm)), (60, .int .i64 (imm / 2)), (61, .int .u32 (p3)), (62, .int .u32 (bits .or .u32 (bits .or .u32 (bits .or .u32 (bits .or .u32 (bits .or .u32 (111) (bits .or .u32 (bits .or .u32 (q1) (q2)) (q3))) (p0)) (p1)) (p2)) (p3))), (2, .int .u32 (bits .or .u32 (bits .or .u32 (bits .or .u32 (bits .or .u32 (bits .or .u32 (111) (bits .or .u32 (bits .or .u32 (q1) (q2)) (q3))) (p0)) (p1)) (p2)) (p3)))] ?hord_2 ?hin_2 ?hfin_2 ?hdo_2 ?_); (case hm_2 => rfl); (case hord_2 => kernel_rfl); (case hin_2 => kernel_rfl); (case hfin_2 => (simp only [Reg.puts, Act.put, List.setIfInBounds_toArray, List.set_cons_zero, List.set_cons_succ]; try rfl)); (case hdo_2 => ((repeat' (first | exact stay1_nil | refine stay1_cons ?_ ?_)); all_goals (first | exact stay1_load rfl rfl rfl pl_int rfl rfl | exact stay1_call rfl rfl (fun X => by go_simp) (fun X => T0.out X) rfl | exact stay1_call rfl rfl (fun X => by go_simp) (fun X => T1.out X) rfl | exact stay1_call rfl rfl (fun X => by go_simp) (fun X => T2.out X) rfl | exact stay1_call rfl rfl (fun X => by go_simp) (fun X => T3.out X) rfl | exact stay1_slot rfl rfl (fun X => by first | (go_simp; done))))); intro w' st_; clear ST; have ST := Lib.hid st_; clear st_)
    | ((with_reducible refine Step.gate_box (t := 74) rfl ?_); refine Step.fresh (cs := #[.int .i64 3, .int .i64 fn, .int .i64 rd, .int .i64 rs1, .int .i64 rs2, .int .i64 imm, .int .i64 sz, .bool sg]) (T := 74) rfl ?hr ?_; (case hr => first | (go_simp; done)); intro g1 w1 b hg hb; have ST := Lib.hid (S1.made b hg hb); clear b hg hb)
    | ((with_reducible refine Step.gate_load (t := 3) rfl ?_); refine Step.load ST.out.one rfl rfl rfl pl_int rfl ?_))
  go_ret
  exact ⟨rfl, ST.out.below⟩
set_option maxHeartbeats 2000000 in
theorem encode_4 (fn rd rs1 rs2 imm sz : Int) (sg : Bool) (w : World) : Calls Tryz.prog 59 #[.agg #[.int .i64 4, .int .i64 fn, .int .i64 rd, .int .i64 rs1, .int .i64 rs2, .int .i64 imm, .int .i64 sz, .bool sg]] w fun e w' => e = .returned (.int .u32 (bor (bor (103) (regW rd rs1 rs2)) (pt (imm) 12 20))) ∧ Below w.heap.size w w' := by
  have Q1 := Lib.hid (fun w => calls_same (show Calls Tryz.prog 112 #[.int .i64 (rd), .int .i64 11, .int .i64 7] w fun e w' => e = .returned (.int .u32 (pt (rd) 5 7)) ∧ w = w' from put_any (rd) 11 7 11 7 rfl rfl (by decide) (by decide) w))
  have Q2 := Lib.hid (fun w => calls_same (show Calls Tryz.prog 112 #[.int .i64 (rs1), .int .i64 19, .int .i64 15] w fun e w' => e = .returned (.int .u32 (pt (rs1) 5 15)) ∧ w = w' from put_any (rs1) 19 15 19 15 rfl rfl (by decide) (by decide) w))
  have Q3 := Lib.hid (fun w => calls_same (show Calls Tryz.prog 112 #[.int .i64 (rs2), .int .i64 24, .int .i64 20] w fun e w' => e = .returned (.int .u32 (pt (rs2) 5 20)) ∧ w = w' from put_any (rs2) 24 20 24 20 rfl rfl (by decide) (by decide) w))
  have T0 := Lib.hid (fun w => calls_same (show Calls Tryz.prog 112 #[.int .i64 (imm), .int .i64 31, .int .i64 20] w fun e w' => e = .returned (.int .u32 (pt (imm) 12 20)) ∧ w = w' from put_any (imm) 31 20 31 20 rfl rfl (by decide) (by decide) w))
  generalize pt (imm) 12 20 = p0 at *
  unfold regW
  generalize pt (rd) 5 7 = q1 at *
  generalize pt (rs1) 5 15 = q2 at *
  generalize pt (rs2) 5 20 = q3 at *
  go_enter Tryz.func59, Tryz.ntmps59
  go_wp2_with (first
    | ((with_reducible refine one_region (id := 1) (fin := ?fin_1) ST.out ?hm_1 [(8, .pointer (some ⟨g1, 2, none⟩)), (9, .int .i64 (rd)), (10, .int .u32 (q1)), (11, .pointer (some ⟨g1, 3, none⟩)), (12, .int .i64 (rs1)), (13, .int .u32 (q2)), (14, .int .u32 (bits .or .u32 (q1) (q2))), (15, .pointer (some ⟨g1, 4, none⟩)), (16, .int .i64 (rs2)), (17, .int .u32 (q3)), (18, .int .u32 (bits .or .u32 (bits .or .u32 (q1) (q2)) (q3))), (3, .int .u32 (bits .or .u32 (bits .or .u32 (q1) (q2)) (q3)))] ?hord_1 ?hin_1 ?hfin_1 ?hdo_1 ?_); (case hm_1 => rfl); (case hord_1 => kernel_rfl); (case hin_1 => kernel_rfl); (case hfin_1 => (simp only [Reg.puts, Act.put, List.setIfInBounds_toArray, List.set_cons_zero, List.set_cons_succ]; try rfl)); (case hdo_1 => ((repeat' (first | exact stay1_nil | refine stay1_cons ?_ ?_)); all_goals (first | exact stay1_load rfl rfl rfl pl_int rfl rfl | exact stay1_call rfl rfl (fun X => by go_simp) (fun X => Q1.out X) rfl | exact stay1_call rfl rfl (fun X => by go_simp) (fun X => Q2.out X) rfl | exact stay1_call rfl rfl (fun X => by go_simp) (fun X => Q3.out X) rfl | exact stay1_slot rfl rfl (fun X => by first | (go_simp; done))))); intro w' st_; clear ST; have ST := Lib.hid st_; clear st_)
    | (go_at_call 112; (with_reducible refine (T0.out _).mono ?_); rintro e w' ⟨rfl, hb⟩; (try (have pb_ := Lib.hid (PB.out.below hb); clear PB; have PB := pb_)); have st_ := Lib.hid (ST.out.call hb); clear ST hb; have ST := st_)
    | ((with_reducible refine Step.gate_box (t := 74) rfl ?_); refine Step.fresh (cs := #[.int .i64 4, .int .i64 fn, .int .i64 rd, .int .i64 rs1, .int .i64 rs2, .int .i64 imm, .int .i64 sz, .bool sg]) (T := 74) rfl ?hr ?_; (case hr => first | (go_simp; done)); intro g1 w1 b hg hb; have ST := Lib.hid (S1.made b hg hb); clear b hg hb)
    | ((with_reducible refine Step.gate_load (t := 3) rfl ?_); refine Step.load ST.out.one rfl rfl rfl pl_int rfl ?_))
  go_ret
  exact ⟨rfl, ST.out.below⟩
def brI : List Int := ([1, 2, 0, 0, 3, 4, 5, 6] : List Int)
set_option maxHeartbeats 2000000 in
theorem encode_5 (fn rd rs1 rs2 imm sz : Int) (sg : Bool) (w : World) : Calls Tryz.prog 59 #[.agg #[.int .i64 5, .int .i64 fn, .int .i64 rd, .int .i64 rs1, .int .i64 rs2, .int .i64 imm, .int .i64 sz, .bool sg]] w fun e w' => e = .returned (.int .u32 (bor (bor (bor (bor (bor (bor (99) (regW rd rs1 rs2)) (pt (ix brI fn) 3 12)) (pt (imm / 4096) 1 31)) (pt (imm / 2048) 1 7)) (pt (imm / 32) 6 25)) (pt (imm / 2) 4 8))) ∧ Below w.heap.size w w' := by
  have Q1 := Lib.hid (fun w => calls_same (show Calls Tryz.prog 112 #[.int .i64 (rd), .int .i64 11, .int .i64 7] w fun e w' => e = .returned (.int .u32 (pt (rd) 5 7)) ∧ w = w' from put_any (rd) 11 7 11 7 rfl rfl (by decide) (by decide) w))
  have Q2 := Lib.hid (fun w => calls_same (show Calls Tryz.prog 112 #[.int .i64 (rs1), .int .i64 19, .int .i64 15] w fun e w' => e = .returned (.int .u32 (pt (rs1) 5 15)) ∧ w = w' from put_any (rs1) 19 15 19 15 rfl rfl (by decide) (by decide) w))
  have Q3 := Lib.hid (fun w => calls_same (show Calls Tryz.prog 112 #[.int .i64 (rs2), .int .i64 24, .int .i64 20] w fun e w' => e = .returned (.int .u32 (pt (rs2) 5 20)) ∧ w = w' from put_any (rs2) 24 20 24 20 rfl rfl (by decide) (by decide) w))
  have T0 := Lib.hid (fun w => calls_same (show Calls Tryz.prog 112 #[.int .i64 (imm / 4096), .int .i64 31, .int .i64 31] w fun e w' => e = .returned (.int .u32 (pt (imm / 4096) 1 31)) ∧ w = w' from put_any (imm / 4096) 31 31 31 31 rfl rfl (by decide) (by decide) w))
  have T1 := Lib.hid (fun w => calls_same (show Calls Tryz.prog 112 #[.int .i64 (imm / 2048), .int .i64 7, .int .i64 7] w fun e w' => e = .returned (.int .u32 (pt (imm / 2048) 1 7)) ∧ w = w' from put_any (imm / 2048) 7 7 7 7 rfl rfl (by decide) (by decide) w))
  have T2 := Lib.hid (fun w => calls_same (show Calls Tryz.prog 112 #[.int .i64 (imm / 32), .int .i64 30, .int .i64 25] w fun e w' => e = .returned (.int .u32 (pt (imm / 32) 6 25)) ∧ w = w' from put_any (imm / 32) 30 25 30 25 rfl rfl (by decide) (by decide) w))
  have T3 := Lib.hid (fun w => calls_same (show Calls Tryz.prog 112 #[.int .i64 (imm / 2), .int .i64 11, .int .i64 8] w fun e w' => e = .returned (.int .u32 (pt (imm / 2) 4 8)) ∧ w = w' from put_any (imm / 2) 11 8 11 8 rfl rfl (by decide) (by decide) w))
  have T4 := Lib.hid (fun w => calls_same (show Calls Tryz.prog 112 #[.int .i64 (ix brI fn), .int .i64 14, .int .i64 12] w fun e w' => e = .returned (.int .u32 (pt (ix brI fn) 3 12)) ∧ w = w' from put_any (ix brI fn) 14 12 14 12 rfl rfl (by decide) (by decide) w))
  have hu : ix ([1, 2, 0, 0, 3, 4, 5, 6] : List Int) fn = ix brI fn := rfl
  generalize pt (imm / 4096) 1 31 = p0 at *
  generalize pt (imm / 2048) 1 7 = p1 at *
  generalize pt (imm / 32) 6 25 = p2 at *
  generalize pt (imm / 2) 4 8 = p3 at *
  generalize pt (ix brI fn) 3 12 = p4 at *
  generalize ix brI fn = u at *
  unfold regW
  generalize pt (rd) 5 7 = q1 at *
  generalize pt (rs1) 5 15 = q2 at *
  generalize pt (rs2) 5 20 = q3 at *
  go_enter Tryz.func59, Tryz.ntmps59
  go_wp2_with (first
    | ((with_reducible refine one_region (id := 1) (fin := ?fin_1) ST.out ?hm_1 [(8, .pointer (some ⟨g1, 2, none⟩)), (9, .int .i64 (rd)), (10, .int .u32 (q1)), (11, .pointer (some ⟨g1, 3, none⟩)), (12, .int .i64 (rs1)), (13, .int .u32 (q2)), (14, .int .u32 (bits .or .u32 (q1) (q2))), (15, .pointer (some ⟨g1, 4, none⟩)), (16, .int .i64 (rs2)), (17, .int .u32 (q3)), (18, .int .u32 (bits .or .u32 (bits .or .u32 (q1) (q2)) (q3))), (3, .int .u32 (bits .or .u32 (bits .or .u32 (q1) (q2)) (q3)))] ?hord_1 ?hin_1 ?hfin_1 ?hdo_1 ?_); (case hm_1 => rfl); (case hord_1 => kernel_rfl); (case hin_1 => kernel_rfl); (case hfin_1 => (simp only [Reg.puts, Act.put, List.setIfInBounds_toArray, List.set_cons_zero, List.set_cons_succ]; try rfl)); (case hdo_1 => ((repeat' (first | exact stay1_nil | refine stay1_cons ?_ ?_)); all_goals (first | exact stay1_load rfl rfl rfl pl_int rfl rfl | exact stay1_call rfl rfl (fun X => by go_simp) (fun X => Q1.out X) rfl | exact stay1_call rfl rfl (fun X => by go_simp) (fun X => Q2.out X) rfl | exact stay1_call rfl rfl (fun X => by go_simp) (fun X => Q3.out X) rfl | exact stay1_slot rfl rfl (fun X => by first | (go_simp; done))))); intro w' st_; clear ST; have ST := Lib.hid st_; clear st_)
    | ((with_reducible refine Step.gate_build (t := 174) rfl ?_); refine Step.freshSlice (cs := #[.int .i64 1, .int .i64 2, .int .i64 0, .int .i64 0, .int .i64 3, .int .i64 4, .int .i64 5, .int .i64 6]) (T := 3) (n := 8) (m := 8) rfl ?hr ?_; (case hr => first | (go_simp; done)); intro g9 w1 b hg hb; have PB := Lib.hid (show Blk w1 g9 (Enc.ints ([1, 2, 0, 0, 3, 4, 5, 6] : List Int)) _ from b); have st_ := Lib.hid (ST.out.call hb); clear ST b hb hg; have ST := st_)
    | (go_at_call 113; have ix_ := index_any (n := 8) PB.out (([1, 2, 0, 0, 3, 4, 5, 6] : List Int)) rfl rfl (by decide) fn; (with_reducible refine ix_.mono ?_); clear ix_; rintro e w' ⟨rfl, rfl⟩; clear PB; (try rw [hu]))
    | ((with_reducible refine one_region (id := 13) (fin := ?fin_3) ST.out ?hm_3 [(77, .int .u32 (bits .or .u32 (bits .or .u32 (q1) (q2)) (q3))), (78, .int .u32 (bits .or .u32 (99) (bits .or .u32 (bits .or .u32 (q1) (q2)) (q3)))), (79, .int .i64 (u)), (80, .int .u32 (p4)), (81, .int .u32 (bits .or .u32 (bits .or .u32 (99) (bits .or .u32 (bits .or .u32 (q1) (q2)) (q3))) (p4))), (82, .pointer (some ⟨g1, 5, none⟩)), (83, .int .i64 (imm)), (84, .int .i64 (imm / 4096)), (85, .int .u32 (p0)), (86, .int .u32 (bits .or .u32 (bits .or .u32 (bits .or .u32 (99) (bits .or .u32 (bits .or .u32 (q1) (q2)) (q3))) (p4)) (p0))), (87, .pointer (some ⟨g1, 5, none⟩)), (88, .int .i64 (imm)), (89, .int .i64 (imm / 2048)), (90, .int .u32 (p1)), (91, .int .u32 (bits .or .u32 (bits .or .u32 (bits .or .u32 (bits .or .u32 (99) (bits .or .u32 (bits .or .u32 (q1) (q2)) (q3))) (p4)) (p0)) (p1))), (92, .pointer (some ⟨g1, 5, none⟩)), (93, .int .i64 (imm)), (94, .int .i64 (imm / 32)), (95, .int .u32 (p2)), (96, .int .u32 (bits .or .u32 (bits .or .u32 (bits .or .u32 (bits .or .u32 (bits .or .u32 (99) (bits .or .u32 (bits .or .u32 (q1) (q2)) (q3))) (p4)) (p0)) (p1)) (p2))), (97, .pointer (some ⟨g1, 5, none⟩)), (98, .int .i64 (imm)), (99, .int .i64 (imm / 2)), (100, .int .u32 (p3)), (101, .int .u32 (bits .or .u32 (bits .or .u32 (bits .or .u32 (bits .or .u32 (bits .or .u32 (bits .or .u32 (99) (bits .or .u32 (bits .or .u32 (q1) (q2)) (q3))) (p4)) (p0)) (p1)) (p2)) (p3))), (2, .int .u32 (bits .or .u32 (bits .or .u32 (bits .or .u32 (bits .or .u32 (bits .or .u32 (bits .or .u32 (99) (bits .or .u32 (bits .or .u32 (q1) (q2)) (q3))) (p4)) (p0)) (p1)) (p2)) (p3)))] ?hord_3 ?hin_3 ?hfin_3 ?hdo_3 ?_); (case hm_3 => rfl); (case hord_3 => kernel_rfl); (case hin_3 => kernel_rfl); (case hfin_3 => (simp only [Reg.puts, Act.put, List.setIfInBounds_toArray, List.set_cons_zero, List.set_cons_succ]; try rfl)); (case hdo_3 => ((repeat' (first | exact stay1_nil | refine stay1_cons ?_ ?_)); all_goals (first | exact stay1_load rfl rfl rfl pl_int rfl rfl | exact stay1_call rfl rfl (fun X => by go_simp) (fun X => T0.out X) rfl | exact stay1_call rfl rfl (fun X => by go_simp) (fun X => T1.out X) rfl | exact stay1_call rfl rfl (fun X => by go_simp) (fun X => T2.out X) rfl | exact stay1_call rfl rfl (fun X => by go_simp) (fun X => T3.out X) rfl | exact stay1_call rfl rfl (fun X => by go_simp) (fun X => T4.out X) rfl | exact stay1_slot rfl rfl (fun X => by first | (go_simp; done))))); intro w' st_; clear ST; have ST := Lib.hid st_; clear st_)
    | ((with_reducible refine Step.gate_box (t := 74) rfl ?_); refine Step.fresh (cs := #[.int .i64 5, .int .i64 fn, .int .i64 rd, .int .i64 rs1, .int .i64 rs2, .int .i64 imm, .int .i64 sz, .bool sg]) (T := 74) rfl ?hr ?_; (case hr => first | (go_simp; done)); intro g1 w1 b hg hb; have ST := Lib.hid (S1.made b hg hb); clear b hg hb)
    | ((with_reducible refine Step.gate_load (t := 3) rfl ?_); refine Step.load ST.out.one rfl rfl rfl pl_int rfl ?_))
  go_ret
  exact ⟨rfl, ST.out.below⟩
set_option maxHeartbeats 2000000 in
theorem encode_6_true (fn rd rs1 rs2 imm sz : Int) (w : World) : Calls Tryz.prog 59 #[.agg #[.int .i64 6, .int .i64 fn, .int .i64 rd, .int .i64 rs1, .int .i64 rs2, .int .i64 imm, .int .i64 sz, .bool true]] w fun e w' => e = .returned (.int .u32 (bor (bor (bor (3) (regW rd rs1 rs2)) (pt (ix ld4 sz) 3 12)) (pt (imm) 12 20))) ∧ Below w.heap.size w w' := by
  have Q1 := Lib.hid (fun w => calls_same (show Calls Tryz.prog 112 #[.int .i64 (rd), .int .i64 11, .int .i64 7] w fun e w' => e = .returned (.int .u32 (pt (rd) 5 7)) ∧ w = w' from put_any (rd) 11 7 11 7 rfl rfl (by decide) (by decide) w))
  have Q2 := Lib.hid (fun w => calls_same (show Calls Tryz.prog 112 #[.int .i64 (rs1), .int .i64 19, .int .i64 15] w fun e w' => e = .returned (.int .u32 (pt (rs1) 5 15)) ∧ w = w' from put_any (rs1) 19 15 19 15 rfl rfl (by decide) (by decide) w))
  have Q3 := Lib.hid (fun w => calls_same (show Calls Tryz.prog 112 #[.int .i64 (rs2), .int .i64 24, .int .i64 20] w fun e w' => e = .returned (.int .u32 (pt (rs2) 5 20)) ∧ w = w' from put_any (rs2) 24 20 24 20 rfl rfl (by decide) (by decide) w))
  have T0 := Lib.hid (fun w => calls_same (show Calls Tryz.prog 112 #[.int .i64 (imm), .int .i64 31, .int .i64 20] w fun e w' => e = .returned (.int .u32 (pt (imm) 12 20)) ∧ w = w' from put_any (imm) 31 20 31 20 rfl rfl (by decide) (by decide) w))
  have T4 := Lib.hid (fun w => calls_same (show Calls Tryz.prog 112 #[.int .i64 (ix ld4 sz), .int .i64 14, .int .i64 12] w fun e w' => e = .returned (.int .u32 (pt (ix ld4 sz) 3 12)) ∧ w = w' from put_any (ix ld4 sz) 14 12 14 12 rfl rfl (by decide) (by decide) w))
  have hu : ix ([1, 2, 4, 8] : List Int) sz = ix ld4 sz := rfl
  have hb := ix_bd ld4 sz
  have hb2 : (ld4.length : Int) = 4 := rfl
  rw [hb2] at hb
  clear hb2
  generalize pt (imm) 12 20 = p0 at *
  generalize pt (ix ld4 sz) 3 12 = p4 at *
  generalize ix ld4 sz = u at *
  unfold regW
  generalize pt (rd) 5 7 = q1 at *
  generalize pt (rs1) 5 15 = q2 at *
  generalize pt (rs2) 5 20 = q3 at *
  go_enter Tryz.func59, Tryz.ntmps59
  go_wp2_with (first
    | ((with_reducible refine one_region (id := 1) (fin := ?fin_1) ST.out ?hm_1 [(8, .pointer (some ⟨g1, 2, none⟩)), (9, .int .i64 (rd)), (10, .int .u32 (q1)), (11, .pointer (some ⟨g1, 3, none⟩)), (12, .int .i64 (rs1)), (13, .int .u32 (q2)), (14, .int .u32 (bits .or .u32 (q1) (q2))), (15, .pointer (some ⟨g1, 4, none⟩)), (16, .int .i64 (rs2)), (17, .int .u32 (q3)), (18, .int .u32 (bits .or .u32 (bits .or .u32 (q1) (q2)) (q3))), (3, .int .u32 (bits .or .u32 (bits .or .u32 (q1) (q2)) (q3)))] ?hord_1 ?hin_1 ?hfin_1 ?hdo_1 ?_); (case hm_1 => rfl); (case hord_1 => kernel_rfl); (case hin_1 => kernel_rfl); (case hfin_1 => (simp only [Reg.puts, Act.put, List.setIfInBounds_toArray, List.set_cons_zero, List.set_cons_succ]; try rfl)); (case hdo_1 => ((repeat' (first | exact stay1_nil | refine stay1_cons ?_ ?_)); all_goals (first | exact stay1_load rfl rfl rfl pl_int rfl rfl | exact stay1_call rfl rfl (fun X => by go_simp) (fun X => Q1.out X) rfl | exact stay1_call rfl rfl (fun X => by go_simp) (fun X => Q2.out X) rfl | exact stay1_call rfl rfl (fun X => by go_simp) (fun X => Q3.out X) rfl | exact stay1_slot rfl rfl (fun X => by first | (go_simp; done))))); intro w' st_; clear ST; have ST := Lib.hid st_; clear st_)
    | ((with_reducible refine Step.gate_build (t := 174) rfl ?_); refine Step.freshSlice (cs := #[.int .i64 1, .int .i64 2, .int .i64 4, .int .i64 8]) (T := 3) (n := 4) (m := 4) rfl ?hr ?_; (case hr => first | (go_simp; done)); intro g9 w1 b hg hb; have PB := Lib.hid (show Blk w1 g9 (Enc.ints ([1, 2, 4, 8] : List Int)) _ from b); have st_ := Lib.hid (ST.out.call hb); clear ST b hb hg; have ST := st_)
    | (go_at_call 113; have ix_ := index_any (n := 4) PB.out (([1, 2, 4, 8] : List Int)) rfl rfl (by decide) sz; (with_reducible refine ix_.mono ?_); clear ix_; rintro e w' ⟨rfl, rfl⟩; clear PB; (try rw [hu]))
    | ((with_reducible refine one_region (id := 18) (fin := ?fin_4) ST.out ?hm_4 [(113, .int .u32 (bits .or .u32 (bits .or .u32 (q1) (q2)) (q3))), (114, .int .u32 (bits .or .u32 (3) (bits .or .u32 (bits .or .u32 (q1) (q2)) (q3)))), (115, .int .i64 (u)), (116, .int .u32 (p4)), (117, .int .u32 (bits .or .u32 (bits .or .u32 (3) (bits .or .u32 (bits .or .u32 (q1) (q2)) (q3))) (p4))), (118, .pointer (some ⟨g1, 5, none⟩)), (119, .int .i64 (imm)), (120, .int .u32 (p0)), (121, .int .u32 (bits .or .u32 (bits .or .u32 (bits .or .u32 (3) (bits .or .u32 (bits .or .u32 (q1) (q2)) (q3))) (p4)) (p0))), (2, .int .u32 (bits .or .u32 (bits .or .u32 (bits .or .u32 (3) (bits .or .u32 (bits .or .u32 (q1) (q2)) (q3))) (p4)) (p0)))] ?hord_4 ?hin_4 ?hfin_4 ?hdo_4 ?_); (case hm_4 => rfl); (case hord_4 => kernel_rfl); (case hin_4 => kernel_rfl); (case hfin_4 => (simp only [Reg.puts, Act.put, List.setIfInBounds_toArray, List.set_cons_zero, List.set_cons_succ]; try rfl)); (case hdo_4 => ((repeat' (first | exact stay1_nil | refine stay1_cons ?_ ?_)); all_goals (first | exact stay1_load rfl rfl rfl pl_int rfl rfl | exact stay1_call rfl rfl (fun X => by go_simp) (fun X => T0.out X) rfl | exact stay1_call rfl rfl (fun X => by go_simp) (fun X => T4.out X) rfl | exact stay1_slot rfl rfl (fun X => by first | (go_simp; done))))); intro w' st_; clear ST; have ST := Lib.hid st_; clear st_)
    | ((with_reducible refine Step.gate_box (t := 74) rfl ?_); refine Step.fresh (cs := #[.int .i64 6, .int .i64 fn, .int .i64 rd, .int .i64 rs1, .int .i64 rs2, .int .i64 imm, .int .i64 sz, .bool true]) (T := 74) rfl ?hr ?_; (case hr => first | (go_simp; done)); intro g1 w1 b hg hb; have ST := Lib.hid (S1.made b hg hb); clear b hg hb)
    | ((with_reducible refine Step.gate_load (t := 3) rfl ?_); refine Step.load ST.out.one rfl rfl rfl pl_int rfl ?_)
    | ((with_reducible refine Step.gate_load (t := 4) rfl ?_); refine Step.load ST.out.one rfl rfl rfl pl_bool rfl ?_))
  go_ret
  exact ⟨rfl, ST.out.below⟩
set_option maxHeartbeats 2000000 in
theorem encode_6_false (fn rd rs1 rs2 imm sz : Int) (w : World) : Calls Tryz.prog 59 #[.agg #[.int .i64 6, .int .i64 fn, .int .i64 rd, .int .i64 rs1, .int .i64 rs2, .int .i64 imm, .int .i64 sz, .bool false]] w fun e w' => e = .returned (.int .u32 (bor (bor (bor (3) (regW rd rs1 rs2)) (pt (ix ld4 sz + 4) 3 12)) (pt (imm) 12 20))) ∧ Below w.heap.size w w' := by
  have Q1 := Lib.hid (fun w => calls_same (show Calls Tryz.prog 112 #[.int .i64 (rd), .int .i64 11, .int .i64 7] w fun e w' => e = .returned (.int .u32 (pt (rd) 5 7)) ∧ w = w' from put_any (rd) 11 7 11 7 rfl rfl (by decide) (by decide) w))
  have Q2 := Lib.hid (fun w => calls_same (show Calls Tryz.prog 112 #[.int .i64 (rs1), .int .i64 19, .int .i64 15] w fun e w' => e = .returned (.int .u32 (pt (rs1) 5 15)) ∧ w = w' from put_any (rs1) 19 15 19 15 rfl rfl (by decide) (by decide) w))
  have Q3 := Lib.hid (fun w => calls_same (show Calls Tryz.prog 112 #[.int .i64 (rs2), .int .i64 24, .int .i64 20] w fun e w' => e = .returned (.int .u32 (pt (rs2) 5 20)) ∧ w = w' from put_any (rs2) 24 20 24 20 rfl rfl (by decide) (by decide) w))
  have T0 := Lib.hid (fun w => calls_same (show Calls Tryz.prog 112 #[.int .i64 (imm), .int .i64 31, .int .i64 20] w fun e w' => e = .returned (.int .u32 (pt (imm) 12 20)) ∧ w = w' from put_any (imm) 31 20 31 20 rfl rfl (by decide) (by decide) w))
  have T4 := Lib.hid (fun w => calls_same (show Calls Tryz.prog 112 #[.int .i64 (ix ld4 sz + 4), .int .i64 14, .int .i64 12] w fun e w' => e = .returned (.int .u32 (pt (ix ld4 sz + 4) 3 12)) ∧ w = w' from put_any (ix ld4 sz + 4) 14 12 14 12 rfl rfl (by decide) (by decide) w))
  have hu : ix ([1, 2, 4, 8] : List Int) sz = ix ld4 sz := rfl
  have hb := ix_bd ld4 sz
  have hb2 : (ld4.length : Int) = 4 := rfl
  rw [hb2] at hb
  clear hb2
  generalize pt (imm) 12 20 = p0 at *
  generalize pt (ix ld4 sz + 4) 3 12 = p4 at *
  generalize ix ld4 sz = u at *
  unfold regW
  generalize pt (rd) 5 7 = q1 at *
  generalize pt (rs1) 5 15 = q2 at *
  generalize pt (rs2) 5 20 = q3 at *
  go_enter Tryz.func59, Tryz.ntmps59
  go_wp2_with (first
    | ((with_reducible refine one_region (id := 1) (fin := ?fin_1) ST.out ?hm_1 [(8, .pointer (some ⟨g1, 2, none⟩)), (9, .int .i64 (rd)), (10, .int .u32 (q1)), (11, .pointer (some ⟨g1, 3, none⟩)), (12, .int .i64 (rs1)), (13, .int .u32 (q2)), (14, .int .u32 (bits .or .u32 (q1) (q2))), (15, .pointer (some ⟨g1, 4, none⟩)), (16, .int .i64 (rs2)), (17, .int .u32 (q3)), (18, .int .u32 (bits .or .u32 (bits .or .u32 (q1) (q2)) (q3))), (3, .int .u32 (bits .or .u32 (bits .or .u32 (q1) (q2)) (q3)))] ?hord_1 ?hin_1 ?hfin_1 ?hdo_1 ?_); (case hm_1 => rfl); (case hord_1 => kernel_rfl); (case hin_1 => kernel_rfl); (case hfin_1 => (simp only [Reg.puts, Act.put, List.setIfInBounds_toArray, List.set_cons_zero, List.set_cons_succ]; try rfl)); (case hdo_1 => ((repeat' (first | exact stay1_nil | refine stay1_cons ?_ ?_)); all_goals (first | exact stay1_load rfl rfl rfl pl_int rfl rfl | exact stay1_call rfl rfl (fun X => by go_simp) (fun X => Q1.out X) rfl | exact stay1_call rfl rfl (fun X => by go_simp) (fun X => Q2.out X) rfl | exact stay1_call rfl rfl (fun X => by go_simp) (fun X => Q3.out X) rfl | exact stay1_slot rfl rfl (fun X => by first | (go_simp; done))))); intro w' st_; clear ST; have ST := Lib.hid st_; clear st_)
    | ((with_reducible refine Step.gate_build (t := 174) rfl ?_); refine Step.freshSlice (cs := #[.int .i64 1, .int .i64 2, .int .i64 4, .int .i64 8]) (T := 3) (n := 4) (m := 4) rfl ?hr ?_; (case hr => first | (go_simp; done)); intro g9 w1 b hg hb; have PB := Lib.hid (show Blk w1 g9 (Enc.ints ([1, 2, 4, 8] : List Int)) _ from b); have st_ := Lib.hid (ST.out.call hb); clear ST b hb hg; have ST := st_)
    | (go_at_call 113; have ix_ := index_any (n := 4) PB.out (([1, 2, 4, 8] : List Int)) rfl rfl (by decide) sz; (with_reducible refine ix_.mono ?_); clear ix_; rintro e w' ⟨rfl, rfl⟩; clear PB; (try rw [hu]))
    | ((with_reducible refine one_region (id := 18) (fin := ?fin_5) ST.out ?hm_5 [(113, .int .u32 (bits .or .u32 (bits .or .u32 (q1) (q2)) (q3))), (114, .int .u32 (bits .or .u32 (3) (bits .or .u32 (bits .or .u32 (q1) (q2)) (q3)))), (115, .int .i64 (u + 4)), (116, .int .u32 (p4)), (117, .int .u32 (bits .or .u32 (bits .or .u32 (3) (bits .or .u32 (bits .or .u32 (q1) (q2)) (q3))) (p4))), (118, .pointer (some ⟨g1, 5, none⟩)), (119, .int .i64 (imm)), (120, .int .u32 (p0)), (121, .int .u32 (bits .or .u32 (bits .or .u32 (bits .or .u32 (3) (bits .or .u32 (bits .or .u32 (q1) (q2)) (q3))) (p4)) (p0))), (2, .int .u32 (bits .or .u32 (bits .or .u32 (bits .or .u32 (3) (bits .or .u32 (bits .or .u32 (q1) (q2)) (q3))) (p4)) (p0)))] ?hord_5 ?hin_5 ?hfin_5 ?hdo_5 ?_); (case hm_5 => rfl); (case hord_5 => kernel_rfl); (case hin_5 => kernel_rfl); (case hfin_5 => (simp only [Reg.puts, Act.put, List.setIfInBounds_toArray, List.set_cons_zero, List.set_cons_succ]; try rfl)); (case hdo_5 => ((repeat' (first | exact stay1_nil | refine stay1_cons ?_ ?_)); all_goals (first | exact stay1_load rfl rfl rfl pl_int rfl rfl | exact stay1_call rfl rfl (fun X => by go_simp) (fun X => T0.out X) rfl | exact stay1_call rfl rfl (fun X => by go_simp) (fun X => T4.out X) rfl | exact stay1_slot rfl rfl (fun X => by first | (go_simp; done))))); intro w' st_; clear ST; have ST := Lib.hid st_; clear st_)
    | ((with_reducible refine Step.gate_box (t := 74) rfl ?_); refine Step.fresh (cs := #[.int .i64 6, .int .i64 fn, .int .i64 rd, .int .i64 rs1, .int .i64 rs2, .int .i64 imm, .int .i64 sz, .bool false]) (T := 74) rfl ?hr ?_; (case hr => first | (go_simp; done)); intro g1 w1 b hg hb; have ST := Lib.hid (S1.made b hg hb); clear b hg hb)
    | ((with_reducible refine Step.gate_load (t := 3) rfl ?_); refine Step.load ST.out.one rfl rfl rfl pl_int rfl ?_)
    | ((with_reducible refine Step.gate_load (t := 4) rfl ?_); refine Step.load ST.out.one rfl rfl rfl pl_bool rfl ?_))
  go_ret
  exact ⟨rfl, ST.out.below⟩
end Go.Proofs.YtidiojhefjhojaaGreat.Enc
end
